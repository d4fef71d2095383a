/- Lemmas. -/
import Derived.Test.YtgcaaigeilmbaaaGreatDoorQDcY
set_option linter.unusedVariables false
set_option linter.unusedSimpArgs false
namespace Go.Vm
open Go Go.Am Go.Big
variable{s a b n e i k d g L:Nat}{z w c:Int}{p:LiQ}{A l:LnQ}{h:Hp}{ex fr:Bool}{α:Type}
def shH(o:LnQ):Hp:=[(1,.data 1 (o.map u32) false false),nnQ]
@[simp]theorem xG(o:LnQ):List.length (shH o)=2:=id rfl
def slH(o:LnQ):Hp:=[nnQ,(1,.data 1 (o.map u32) true false)]
@[simp]theorem xz(o:LnQ):List.length (slH o)=2:=id rfl
def rdT(s:LuQ):LuQ:=if s.headD 0=45 then s.tail else s
def rdN(s:LuQ):Bool:=decide (s.headD 0=45)
def rd(s:LuQ):Option Int:=if(rdT s).length<=400 then rdS s else none
theorem adG(s:LuQ):rd s=if(rdT s).length<=400∧rdT s≠[]∧¬((rdT s).headD 0=48∧(1<(rdT s).length∨rdN s=true))∧(rdT s).all zF=true then some (if rdN s=true then -(ik 0 (rdT s):Int)else(ik 0 (rdT s):Int))else none:=by
 unfold rd rdS
 have hcan:∀t:LuQ,Hn t=true↔t≠[]∧t.all zF=true∧¬(1<t.length∧t.headD 0=48):=fun t=>by
  simp[Hn,and_assoc];intro _ _;constructor
  .rintro(h|h) g
   .omega
   omega
  .intro h;by_cases g:1<t.length
   .grind
   .exact .inl aa
 by_cases h:s.headD 0=45
 .have e1:rdT s=s.tail:=by unfold rdT;rw[if_pos h]
  have e2:rdN s=true:=by unfold rdN;simpa using h
  rw[e1,e2,if_pos h];generalize s.tail=t;by_cases h1:t.length<=400
  .simp only[h1,if_true,true_and,hcan];by_cases h2:t≠[]∧¬(t.headD 0=48∧(1<t.length∨True))∧t.all zF=true
   .grind
   .rw[if_neg h2,if_neg];rintro⟨⟨a,b,c⟩,d⟩;refine h2 ⟨a,fun x=>?_,b⟩;by_cases g:1<t.length
    .grind
    .apply d;cases t with
     |nil=>trivial
     | cons y t=>
      grind
  grind
 .have e1:rdT s=s:=by unfold rdT;rw[if_neg h]
  have e2:rdN s=false:=by unfold rdN;simpa using h
  grind
@[simp]theorem xN(n:Nat):okV (nat n)=true:=id rfl
theorem aaf{s:LuQ}(h:rd s=some z):z.natAbs<10^400:=by
 rw[adG]at h;split at h
 .rename_i hc;simp only[Z9]at h;have hi:=Jg (rdT s) 0 hc.2.2.2;have:ik 0 (rdT s)<10^400:=Zv hi (by set_option exponentiation.threshold 1000 in rw[Y9,Xh];exact Zc AF hc.1)
  have hz:z.natAbs=ik 0 (rdT s):=by
   rw[<-h];split<;>simp
  rw[hz];exact this
 .cases h
def rdF(a b:LuQ):Option (Int×Nat):=match rd a,rd b with
 |some n,some d=>if 0<d∧Nat.gcd n.natAbs d.natAbs=1 then some (n,d.natAbs)else none
 |_,_=>none
theorem B3(h:a<=b):ndg a<=ndg b:=jK (Yx h (BI b)) (se b)
theorem XN(k:KL):∀(b a:Nat),ndg a<1000000->ndg b<1000000->k (.exit 0) [S (AI (Nat.gcd a b))] []->lp (GM (CX Y)) [] [] [S (AI a),S (AI b)] [] k:=by
 intro b
 induction b using Nat.strongRecOn with
 | _ b ih=>
  intro a ha hb hk;by_cases h0:b=0
  .subst h0;rw[Nat.gcd_zero_right]at hk;refine AJ ?_;rw[Cq];simp[GM];exact hk
  .have hbp:0<b:=aa
   have hne:¬AI b=[48]:=by
    rw[<-Cq];intro e;have:=congrArg (ik 0) e;rw[B5,B5]at this;omega
   have hm:=Yt a hbp
   have hk2:=ih (a%b) hm b hb (Yx (B3 (Nat.le_of_lt hm)) hb) (by
    rw[Wq b,<-Nat.gcd_rec,Wq b];exact hk)
   refine AJ ?_;simp[GM,hne];refine cd (Na hbp ha hb) ?_;simp;exact hk2
theorem VY(ha:ndg a<1000000)(hb:ndg b<1000000):CP Y F.FA [S (AI a),S (AI b)] (S (AI (Nat.gcd a b))):=by refine Qa ?_;simp[FA];refine lo (XN _ b a ha hb ?_);simp;exact Cu rfl
theorem XM(k:KL):∀(b a:Nat),a<1000000000000000000->b<1000000000000000000->k (.exit 0) [I (Nat.gcd a b:Nat)] []->lp (HD (CX Y)) [] [] [I a,I b] [] k:=by
 intro b
 induction b using Nat.strongRecOn with
 | _ b ih=>
  intro a ha hb hk;by_cases h0:(b:Int)=0
  .have:b=0:=aa;subst this;rw[Nat.gcd_zero_right]at hk;refine AJ ?_;simp[HD];exact hk
  .have hbp:0<b:=aa;have hm:=Yt a hbp
   have hk2:=ih (a%b) hm b hb aa (by
    rw[Wq b,<-Nat.gcd_rec,Wq b];exact hk)
   have h0':¬b=0:=aa;have e2:(a:Int)%(b:Int)=((a%b:Nat):Int):=mR;obtain⟨r,hr⟩:=mnQ (a%b);rw[hr]at hk2 e2;refine AJ ?_;simp[HD,h0,h0',Y3,e2];exact hk2
theorem acT(ha:a<1000000000000000000)(hb:b<1000000000000000000):CP Y F.HR [I a,I b] (I (Nat.gcd a b:Nat)):=by refine Sb ?_;simp[HR];refine lo (XM _ b a ha hb ?_);simp only[Dv];exact A3 rfl
theorem UF(h:n<9223372036854775808):CP Y F.Cv [I n] (S (AI n)):=by
 refine Ow ?_;simp[Cv];have e:itoa (n:Int)=AI n:=by unfold itoa;rw[if_neg aa];rfl
 refine cd (Om (z:=n) aa aa) ?_;rw[e]
 try simp(disch:=try exact zN)
 exact Cu rfl
theorem O1(a:Nat):CP Y F.Be [S (AI a),I 18] (if ndg a<=18 then .tup [I a,B true]else .tup [I 0,B false]):=by
 refine H5 ?_;have la:=E9 a;by_cases h:18<ndg a
 .rw[if_neg aa];simp(disch:=try exact zN)[Be,la,h];exact AO rfl rfl
 .rw[if_pos aa];have ap:=RX (n:=a) (se a) aa (BI a);have en:biF .eql (.d (.pl .nilIface)) (.d (.pl .nilIface))=some (.d (.bool true)):=rfl;simp(disch:=try exact zN)[Be,la,h];refine cd (args:=[S (AI a)]) ap ?_;simp[en];exact AO rfl rfl
theorem J8(s:LuQ):CP Y F.AU [S s] (.tup [B (rdN s),S (rdT s)]):=by
 refine PL ?_;cases s with
 | nil=>
  simp[AU];exact AO rfl rfl
 | cons c t=>
  have hix:ixS (S (c::t)) (.d (.int .i64 0))=some (.d (.int .u8 c.toNat)):=rfl;by_cases h:c=45
  .subst h;have e:((45:UInt8).toNat:Int)=45:=rfl;simp(disch:=try exact zN)[AU,hix,e];exact AO rfl rfl
  .have e:¬(c.toNat:Int)=45:=fun g=>h (by apply UInt8.toNat.inj;simpa using(by omega:c.toNat=45))
   have e1:rdT (c::t)=c::t:=by simp[rdT,h]
   have e2:rdN (c::t)=false:=by simp[rdN,h]
   rw[e1,e2];simp[AU,hix,e];exact AO rfl rfl
theorem QT(l:LuQ)(hl:l.length<1000000000)(k:KL):∀(q p:LuQ),p++q=l->(q.all zF=true->k (.exit 0) [] [])->(q.all zF=false->k .ret [B false] [])->lp (Cs (CX Y) (lst u8 l) (I l.length)) [] [] [I p.length] [] k
 | []=>by
  intro p hp h0 h1;simp at hp;subst hp;refine AJ ?_;simp[Cs];exact h0 rfl
 | c::q=>by
  intro p hp h0 h1;have hpl:p.length<l.length:=by subst hp;simp
  have hc:nth 0 l p.length=c:=by subst hp;simp
  have e1:=fun h:Hp=>uA u8 l h (k:=.i64) (i:=(p.length:Int)) aa aa
  have e2:=fun h:Hp=>jO u8 0 l h (j:=p.length) hpl
  rw[hc]at e2;simp only[Int.toNat_natCast]at e1;have ih:=QT l hl k q (p++[c]) (by simpa using hp);refine AJ ?_;by_cases g1:(c.toNat:Int)<48
  .have g3:zF c=false:=by rw[Bool.eq_false_iff];intro h;rw[E6]at h;omega
   simp(disch:=try exact zN)[Cs,e1,e2,u8,g1];exact h1 (by simp[g3])
  .by_cases g2:(57:Int)<c.toNat
   .have g3:zF c=false:=by rw[Bool.eq_false_iff];intro h;rw[E6]at h;omega
    simp(disch:=try exact zN)[Cs,e1,e2,u8,g1,g2];exact h1 (by simp[g3])
   .have g3:zF c=true:=by rw[E6];omega
    have:=ih (fun h=>h0 (by simp[g3];simpa using h)) (fun h=>h1 (by simp only[List.all_cons,h,Wt]));simp(disch:=try exact zN)[Cs,e1,e2,u8,g1,g2];simpa using this
theorem ada(l:LuQ)(hl:l.length<1000000000):CP Y F.Dl [S l] (B (Hn l)):=by
 refine Ld ?_;unfold Dl
 show cvB (S l) _ _
 rw[adZ];have lL:sy (S l)=some (I l.length):=rfl;simp;refine lo (QT l hl _ l [] rfl (fun e=>?_) (fun e=>?_))
 .simp only[Dv];cases l with
  | nil=>
   simp[lL];exact F5 (by simp[Hn])
  | cons c t=>
   have hix:ixS (S (c::t)) (.d (.int .i64 0))=some (.d (.int .u8 c.toNat)):=rfl;cases t with
   | nil=>
    simp[lL];exact F5 (by simp[Hn]at e ⊢;exact e)
   | cons d t=>
    obtain⟨N,hN⟩:∃N,(c::d::t).length=N:=⟨_,rfl⟩;have hN2:2<=N:=by rw[<-hN];simp only[List.length_cons];omega
    rw[hN]at lL;have g2:(1:Int)<(N:Int):=aa;have g3:¬(N:Int)=1:=aa;by_cases h:c=48
    .subst h;have e48:((48:UInt8).toNat:Int)=48:=rfl;simp[lL,g2,g3,hix,e48];exact F5 (by simp[Hn])
    .have e48:¬(c.toNat:Int)=48:=fun g=>h (by apply UInt8.toNat.inj;simpa using(by omega:c.toNat=48))
     simp[lL,g2,g3,hix,e48]
     exact F5 (by
      have:Hn (c::d::t)=true:=by simp only[Hn,e];simp[h]
      exact this.symm)
 .simp only[xd,x8];exact F5 (by simp only[Hn,e,Wt,Ws])
theorem XW(l:LuQ)(hl:l.length<1000000000):CP Y F.Ey [S l] (I (if Hn l=true∧l.length<=400 then 0 else 2)):=by
 refine NY ?_;have lL:sy (S l)=some (I l.length):=rfl;obtain⟨N,hN⟩:=mnQ (l.length);rw[hN]at lL ⊢;simp[Ey];refine cd (ada l hl) ?_;cases hc:Hn l with
 | false=>
  simp<;>exact A3 mR
 | true=>
  by_cases h:(400:Int)<N
  .simp[lL,h]<;>exact A3 (by rw[if_neg aa])
  .have h2:true=true∧N<=400:=⟨rfl,aa⟩;simp[lL,h]<;>exact A3 (by rw[if_pos h2.2])
theorem WW(s:LuQ):(rd s).isSome=(!(rdN s&&decide (rdT s=[48]))&&(Hn (rdT s)&&decide ((rdT s).length<=400))):=by
 unfold rd rdS rdN rdT;by_cases h45:s.headD 0=45
 .simp only[h45,if_true];obtain⟨t,ht⟩:=mnQ (s.tail);rw[ht];by_cases hl:t.length<=400
  .by_cases h48:t=[48]
   .simp[h48]
   .cases hc:Hn t<;>simp[hl,h48]
  .simp[hl]
 .simp only[h45,if_false];by_cases hl:s.length<=400
  .cases hc:Hn s<;>simp[hl]
  .simp[hl]
theorem QQ(s:LuQ)(hs:s.length<1000000000):CP Y F.Fq [S s] (I (if(rd s).isSome then 0 else 2)):=by
 refine PO ?_
 have hT:(rdT s).length<1000000000:=by
  unfold rdT;split
  .have:s.tail.length=s.length-1:=List.length_tail;omega
  .exact hs
 rw[WW];simp[Fq];refine cd (J8 s) ?_;have hck:=XW (rdT s) hT;obtain⟨t,ht⟩:=mnQ (rdT s);rw[ht]at hck ⊢;obtain⟨c4,hc4⟩:∃c4,(Hn t&&decide (t.length<=400))=c4:=⟨_,rfl⟩
 have hck2:CP Y F.Ey [S t] (I (if c4=true then 0 else 2)):=by
  have:(if Hn t=true∧t.length<=400 then(0:Int)else 2)=if c4=true then 0 else 2:=by
   rw[<-hc4];by_cases h:Hn t=true∧t.length<=400
   .rw[if_pos h];simp[h]
   .rw[if_neg h];rw[if_neg (by simpa using h)]
  rw[<-this];exact hck
 rw[hc4];cases hn:rdN s with
 | true=>
  by_cases h3:t=[48]
  .simp[h3]<;>exact A3 mR
  .simp[h3];refine cd hck2 ?_;cases c4 with
   |true=>simp[h3]<;>exact A3 (by simp[h3])
   |false=>simp[h3]<;>exact A3 (by simp[h3])
 | false=>
  simp;refine cd hck2 ?_;cases c4 with
  |true=>simp<;>exact A3 mR
  |false=>simp<;>exact A3 mR
theorem Je(z:Int):rdT (itoa z)=AI z.natAbs:=by
 unfold itoa rdT;split
 .simp
 .rw[if_neg (Ir _)]
theorem Ou(z:Int):CP Y F.Db [S (itoa z)] (S (AI z.natAbs)):=by refine Nu ?_;have:=J8 (itoa z);rw[Je]at this;simp[Db];refine cd this ?_;simp<;>exact Cu rfl
def sgn(z:Int):Int:=if z=0 then 0 else if z<0 then -1 else 1
theorem Hh(z:Int):CP Y F.BR [S (itoa z)] (I (sgn z)):=by
 refine QZ ?_;by_cases h0:z=0
 .subst h0;have e:itoa 0=[48]:=Cq;rw[e];simp[BR]<;>exact A3 rfl
 ·have hne:¬itoa z=[48]:=by
   intro e;have h1:=S5 z;have h2:=S5 0;rw[show itoa 0=[48]from Cq,<-e,h1]at h2;exact h0 (Option.some.inj h2)
  by_cases hn:z<0
  .have e:itoa z=45::AI z.natAbs:=by unfold itoa;rw[if_pos hn]
   have hix:ixS (S (itoa z)) (.d (.int .i64 0))=some (.d (.int .u8 45)):=by rw[e];rfl
   simp[BR,hne,hix]<;>exact A3 (by simp[sgn,h0,hn])
  .have e:itoa z=AI z.natAbs:=by unfold itoa;rw[if_neg hn]
   obtain ⟨c,t,hct⟩:∃c t,AI z.natAbs=c::t:=by
    cases h:AI z.natAbs with
    |nil=>exact absurd h (Kt _)
    |cons c t=>exact⟨c,t,rfl⟩
   have hhd:=Ir z.natAbs;rw[hct]at hhd;have hix:ixS (S (itoa z)) (.d (.int .i64 0))=some (.d (.int .u8 c.toNat)):=by rw[e,hct];rfl
   have hc:¬(c.toNat:Int)=45:=fun g=>hhd (by apply UInt8.toNat.inj;simpa using(by omega:c.toNat=45))
   simp[BR,hne,hix,hc]<;>exact A3 (by simp[sgn,h0,hn])
theorem VX(hz:ndg z.natAbs<1000000)(hw:ndg w.natAbs<1000000):CP Y F.Gn [S (itoa z),S (itoa w)] (S (AI (Nat.gcd z.natAbs w.natAbs))):=by
 refine Si ?_;have l1:=O1 z.natAbs;have l2:=O1 w.natAbs;have gg:=VY hz hw;simp[Gn];refine cd (Ou z) ?_;simp;refine cd (Ou w) ?_;simp;by_cases h1:ndg z.natAbs<=18
 .rw[if_pos h1]at l1;refine cd l1 ?_;simp;by_cases h2:ndg w.natAbs<=18
  .rw[if_pos h2]at l2;refine AN ?_;simp;refine cd l2 ?_;have b1:z.natAbs<1000000000000000000:=by have:=BI z.natAbs;have:=Zc (n:=10) AF h1;omega
   have b2:w.natAbs<1000000000000000000:=by have:=BI w.natAbs;have:=Zc (n:=10) AF h2;omega
   have gi:=acT b1 b2
   have gb:Nat.gcd z.natAbs w.natAbs<9223372036854775808:=by
    rcases Yz w.natAbs with h|h
    .rw[h,Nat.gcd_zero_right];omega
    .have:=Nat.gcd_le_right z.natAbs h;omega
   generalize Nat.gcd z.natAbs w.natAbs=G at *;generalize z.natAbs=a at *;generalize w.natAbs=b at *;simp;refine cd gi ?_;simp;refine cd (UF gb) ?_;exact Cu rfl
  .rw[if_neg h2]at l2;refine AN ?_;simp;refine cd l2 ?_;simp;refine cd gg ?_;exact Cu rfl
 .rw[if_neg h1]at l1;refine cd l1 ?_;simp;refine cd (u:=.mk) gg ?_;exact Cu rfl
theorem Ob{s:LuQ}(h:rd s=some z):s=itoa z∧ndg z.natAbs<1000000:=by
 have hb:=aaf h;unfold rd at h;split at h
 .exact⟨aag h,by have:=jK hb AF;omega⟩
 .cases h
theorem UC(a b:LuQ):(rdF a b).isSome=match rd a,rd b with
  |some n,some d=>decide (0<d∧Nat.gcd n.natAbs d.natAbs=1)
  |_,_=>false:=by
 unfold rdF;cases rd a<;>cases rd b<;>simp
 split<;>simp_all
theorem Jo(a b:LuQ)(ha:a.length<1000000000)(hb:b.length<1000000000):CP Y F.Cm [.agg [S a,S b]] (I (if(rdF a b).isSome then 0 else 2)):=by
 refine M4 ?_;have ca:=QQ a ha;have cb:=QQ b hb;rw[UC];simp[Cm];refine cd ca ?_;cases hra:rd a with
 | none=>
  simp;refine AN ?_;simp<;>exact A3 rfl
 | some z=>
  cases hrb:rd b with
  | none=>
   rw[hrb]at cb;simp;refine AN ?_;simp;refine cd cb ?_;simp<;>exact A3 rfl
  | some w=>
   rw[hrb]at cb;obtain⟨ea,na⟩:=Ob hra;obtain⟨eb,nb⟩:=Ob hrb;subst ea;subst eb;have sg:=Hh w;have gg:=VX na nb;simp;refine AN ?_;simp;refine cd cb ?_;simp;refine cd sg ?_;by_cases hw:0<w
   .have hs:¬sgn w<=0:=by unfold sgn;rw[if_neg aa,if_neg aa];decide
    simp[hs];refine AN ?_;simp;refine cd gg ?_;by_cases hg:Nat.gcd z.natAbs w.natAbs=1
    .have e1:AI 1=[49]:=by rw[AI,show ndg 1=1 by unfold ndg;simp];rfl
     rw[show AI (Nat.gcd z.natAbs w.natAbs)=[49] by rw[hg,e1]];simp<;>exact A3 (by simp[hw];exact hg)
    ·have e1:¬AI (Nat.gcd z.natAbs w.natAbs)=[49]:=by
      intro e;have:=congrArg (ik 0) e;rw[B5]at this;exact hg this
     simp[e1]<;>exact A3 (by simp[hw,hg])
   .have hs:sgn w<=0:=by unfold sgn;split;decide;rw[if_pos aa];decide
    simp[hs];refine AN ?_;simp[hs]<;>exact A3 (by simp[hw])
def nm(n:Nat):Nat->Nat->Bool
 |0,_=>true
 |k+1,d=>if n%d=0 then false else nm n k (d+1)
def uf(n:Int):Bool:=decide (2<=n)&&decide (n<=97)&&nm n.toNat (n.toNat-2) 2
def NB:Option Int->LiQ->Bool
 |_,[]=>true
 |prev,x::q=>uf x&&(match prev with|some y=>decide (y<x)|none=>true)&&NB (some x) q
def Od(p:LiQ):Bool:=NB none p&&decide (0<p.length)&&decide (p.length<=6)
def Kb(s:LuQ):Bool:=decide ((rdT s).length<=30)
abbrev Tx:=LuQ×LuQ
def ub(x:Tx):LdQ:=[.str x.1,.str x.2]
theorem Bp(x:Tx):(ub x).length=2:=rfl
def ZB(n:Nat):Nat->Nat->Bool
 |0,_=>true
 |r+1,d=>if d*d<=n then(if n%d=0 then false else ZB n r (d+1))else true
theorem aep:∀n:Fin 98,2<=n.val->ZB n.val 10 2=uf n.val:=dQ
theorem Vs(n:Nat)(hn:n<=97)(k:KL):∀(r d:Nat),2<=d->d+r=12->(ZB n r d=true->k (.exit 0) [] [])->(ZB n r d=false->k .ret [B false] []) ->
  lp (DV (CX Y) (I n)) [] [] [I d] [] k
 | 0,d,hd,hr,h0,h1=>by
  have:d=12:=aa;subst this;have g:¬((12:Nat):Int)*((12:Nat):Int)<=(n:Int):=aa;have g2:¬(144:Int)<=(n:Int):=aa;refine AJ ?_;simp[DV,g,g2];exact h0 rfl
 | r+1,d,hd,hr,h0,h1=>by
  have ih:=Vs n hn k r (d+1) aa aa;have hd12:d<=12:=aa;obtain⟨s,hs⟩:=mnQ (d*d);have hsb:s<=144:=by rw[<-hs];exact Yw hd12 hd12
  have e1:(d:Int)*(d:Int)=(s:Int):=by rw[<-hs];simp
  rw[ZB,hs]at h0 h1;refine AJ ?_;by_cases g:s<=n
  .have g':(s:Int)<=(n:Int):=aa;rw[if_pos g]at h0 h1;have hd0:¬((d:Int)=0):=aa;have hd0':¬(d=0):=aa;obtain⟨m,hm⟩:=mnQ (n%d);have e2:(n:Int)%(d:Int)=(m:Int):=by rw[<-hm];simp
   rw[hm]at h0 h1;by_cases h:m=0
   .have h':(m:Int)=0:=aa;rw[if_pos h]at h1;simp(disch:=try exact zN)[DV,e1,g',hd0,hd0',Y3,e2,h',h];exact h1 rfl
   .have h':¬(m:Int)=0:=aa;rw[if_neg h]at h0 h1;have:=ih h0 h1;simp(disch:=try exact zN)[DV,e1,g',hd0,hd0',Y3,e2,h',h];simpa using this
  .have g':¬(s:Int)<=(n:Int):=aa;rw[if_neg g]at h0;simp(disch:=try exact zN)[DV,e1,g'];exact h0 rfl
theorem To(n:Int):CP Y F.DJ [I n] (B (uf n)):=by
 refine NN ?_;by_cases h1:n<2
 .simp[DJ,h1]<;>exact F5 (by simp[uf];omega)
 by_cases h2:97<n
 .simp[DJ,h1,h2]<;>exact F5 (by simp[uf];omega)
 obtain⟨m,rfl⟩:∃m:Nat,n=m:=⟨n.toNat,aa⟩;have ha:=aep ⟨m,aa⟩ bW;simp only at ha;simp[DJ,h1,h2];refine lo (Vs m aa _ 10 2 aa rfl (fun e=>?_) (fun e=>?_))
 .simp only[Dv];exact F5 (by rw[<-ha,e])
 .simp only[xd,x8];exact F5 (by rw[<-ha,e])
def ug(prev:Option Int)(x:Int):Bool:=match prev with|some y=>decide (y<x)|none=>true
def wt:Option Int->LiQ->Int
 |_,[]=>0
 |prev,x::q=>cond (uf x) (cond (ug prev x) (wt (some x) q) 6) 25
theorem QB:∀(q:LiQ)(prev:Option Int),decide (wt prev q=0)=NB prev q
 |[],_=>by simp[wt,NB]
 | x::q,prev=>by
  have e:NB prev (x::q)=(uf x&&ug prev x&&NB (some x) q):=by cases prev<;>rfl
  rw[e];cases h1:uf x with
  |false=>simp only[wt,h1,cond_false,Ws];rfl
  | true=>
   cases h2:ug prev x with
   |false=>simp only[wt,h1,h2,cond_true,cond_false,Yv,Ws];rfl
   | true=>
    simp only[wt,h1,h2,cond_true,Yv];exact QB q (some x)
theorem VH(k:KL):∀(q a:LiQ),(a++q).length<1000000000->(wt a.getLast? q=0->k (.exit 1) [] [])->(wt a.getLast? q≠0->k .ret [I (wt a.getLast? q)] []) ->
  lp (GC (CX Y) (lst di (a++q)) (lst di (a++q)) (I (a++q).length)) [] [] [I a.length] [] k
 | []=>by
  intro a hN h0 h1;refine AJ ?_;simp[GC];exact h0 rfl
 | x::q=>by
  intro a hN h0 h1;simp at hN;have ih:=VH k q (a++[x]) bW;rw[List.getLast?_concat]at ih;refine AJ ?_;simp(disch:=try exact zN)[GC];refine cd (To x) ?_;by_cases hp:uf x=true
  .rcases List.eq_nil_or_concat a with rfl|⟨b,y,rfl⟩
   .simp only[wt,hp,List.getLast?_nil,ug,cond_true]at h0 h1;simp[hp];have:=ih h0 h1;simpa using this
   .rw[List.concat_eq_append]at *;have hny:nth 0 (b++[y]++x::q) b.length=y:=by rw[List.append_assoc];simp
    rw[List.getLast?_concat]at h0 h1;simp only[wt,hp,ug,cond_true]at h0 h1;have eI:∀h:Hp,ixV h 1 (lst di (b++[y]++x::q)) (.d (.int .i64 (b.length:Int)))=some (.dptr ((b++[y]++x::q).map di) b.length):=fun h=>qw di _ h rfl mR
    have eL:∀h:Hp,ld1 h (.dptr ((b++[y]++x::q).map di) b.length)=some (.d (di y)):=fun h=>by
     have:=zz (b++[y]++x::q) h (j:=b.length) mR;rw[hny]at this;exact this
    have hA:b++[y]++[x]++q=b++[y]++x::q:=mR;have hn:(b++[y]).length=b.length+1:=mR;have hn2:(b++[y]++[x]).length=b.length+1+1:=mR;rw[hA,hn2]at ih;rw[hn]at hN ⊢;generalize b++[y]++x::q=A at *;generalize b.length=m at *;have e':((m+1:Nat):Int)-1=(m:Int):=aa;have hl0:(0:Int)<((m+1:Nat):Int):=aa;obtain⟨m1,hm1⟩:=nmQ (m+1);rw[<-hm1]at e' hl0 ih ⊢
    by_cases hyx:y<x
    .have g1:¬x<=y:=aa;rw[show decide (y<x)=true by simpa using hyx]at h0 h1;simp only[cond_true]at h0 h1;have:=ih h0 h1;simp(disch:=try exact zN)[hp,e',hl0,eI,eL,g1];simpa using this
    .have g1:x<=y:=aa;rw[show decide (y<x)=false by simpa using hyx]at h1;simp only[cond_false]at h1;simp(disch:=try exact zN)[hp,e',hl0,eI,eL,g1];simpa using h1
  .have hpf:uf x=false:=by simpa using hp
   simp only[wt,hpf,cond_false]at h1;simp[hpf];simpa using h1
def pcB(p:LiQ):Int:=if p.length=0 then 13 else if 6<p.length then 4 else wt none p
theorem aap(p:LiQ):decide (pcB p=0)=Od p:=by
 unfold pcB Od;by_cases h1:p.length=0
 .simp[h1]
 .by_cases h2:6<p.length
  .have:¬p.length<=6:=aa;simp[h1,h2,this]
  .rw[if_neg h1,if_neg h2,QB];have h3:0<p.length:=aa;have h4:p.length<=6:=aa;simp[h3,h4]
theorem FY(hN:p.length<1000000000):CP Y F.CM [lst di p] (I (pcB p)):=by
 refine PS ?_;have lp':fL (lst di p)=some (I p.length):=rfl;by_cases h1:(p.length:Int)=0
 .have e:pcB p=13:=by unfold pcB;exact if_pos aa
  have hnil:p=[]:=Ze.1 aa;rw[e];subst hnil;simp[CM]<;>exact A3 rfl
 have h1':¬p.length=0:=aa;have hne:¬p=[]:=fun e=>h1' (by rw[e];rfl)
 by_cases h2:(6:Int)<p.length
 .have e:pcB p=4:=by unfold pcB;exact(if_neg h1').trans (if_pos aa)
  rw[e];simp[CM,lp',h1,h2,hne]<;>exact A3 rfl
 have e:pcB p=wt none p:=by unfold pcB;exact(if_neg h1').trans (if_neg aa)
 unfold CM;rw[e]
 have main:=VH (exK [((.exit 1),fun l6 h=>out (I (wt none p)) (.d (.int .i64 0)) h),(.ret,fun l6 h=>out (I (wt none p)) (ge l6 0) h)]) p [] (by simpa using hN) (fun g=>by
  simp only[List.getLast?_nil]at g;simp only[Dv];exact A3 g.symm) (fun g=>by
  simp only[List.getLast?_nil]at g ⊢;simp only[xd,x8];exact A3 rfl)
 simp[lp',h1,h2,hne];exact main
theorem QM(ha:ndg a<1000000)(hb:ndg b<1000000):CP Y F.Ep [S (AI a),S (AI b)] (S (AI (a*b))):=by
 refine P8 ?_;have la:=E9 a;have lb:=E9 b;have bo:=Ot a b;by_cases h18:(ndg a:Int)+(ndg b:Int)<=18
 .rw[if_pos ⟨aa,aa⟩]at bo
  have hm:a*b<1000000000000000000:=by
   have h1:=BI a;have h2:=BI b;have h3:a*b<10^ndg a*10^ndg b:=Yd h1 h2;rw[<-Yh]at h3;have h4:10^(ndg a+ndg b)<=10^18:=Zc AF aa;exact Zv h3 h4
  obtain⟨m,hmm⟩:=mnQ (a*b);have e1:(a:Int)*(b:Int)=(m:Int):=by rw[<-hmm];simp
  rw[hmm]at hm ⊢;simp(disch:=try exact zN)[Ep,la,lb,h18];refine cd bo ?_;simp(disch:=try exact zN)[e1];refine cd (MY (n:=m) aa) ?_;exact Cu rfl
 .obtain⟨ca,hca⟩:=nmQ (ndg a/9+1);obtain⟨cb,hcb⟩:=nmQ (ndg b/9+1);have ltA:a<Z^ca:=Zv (BI a) (by rw[MI];exact Zc AF aa);have ltB:b<Z^cb:=Zv (BI b) (by rw[MI];exact Zc AF aa)
  have cA:=IY (h:=[nnQ,nnQ,nnQ]) rfl (n:=a) aa hca;have lA:(iq ca a).length=ca:=ip ..;have lB:(iq cb b).length=cb:=ip ..;have cB:=IY (h:=[(1,.data 1 ((iq ca a).map u6) true false),nnQ,nnQ]) rfl (n:=b) aa hcb;simp(disch:=try exact zN)[Ep,la,lb,h18];refine EH (CU (e:=0) (b:=.none) cA rfl ?_)
  rw[List.length_map,lA];simp;refine EH (CU (e:=0) (b:=.none) cB rfl ?_);rw[List.length_map,lB];simp;have rA:=Ov (h:=[(1,.data 1 ((iq ca a).map u6) true false),(1,.data 1 ((iq cb b).map u6) true false),nnQ]) (s:=0) (e:=1) (len:=(dig Z a).length) (cap:=ca) (ex:=true) (fr:=false) rfl lA.symm (qS ltA)
  have rB:=Ov (h:=[(1,.data 1 ((iq ca a).map u6) true false),(1,.data 1 ((iq cb b).map u6) true false),nnQ]) (s:=1) (e:=1) (len:=(dig Z b).length) (cap:=cb) (ex:=true) (fr:=false) rfl lB.symm (qS ltB);rw[jl ltA]at rA;rw[jl ltB]at rB;have dA:=qS ltA;have dB:=qS ltB;obtain⟨N,hN⟩:=nmQ ((dig Z a).length+(dig Z b).length)
  have tp:=ML (h:=[(1,.data 1 ((iq ca a).map u6) true false),(1,.data 1 ((iq cb b).map u6) true false),nnQ]) rfl rA (jq ko a) rB (jq ko b) aa aa hN
  have ltM:a*b<Z^N:=by
   rw[hN,Yh];have h1:=tQ xr (jq ko a);have h2:=tQ xr (jq ko b);rw[mT ko]at h1 h2;exact Yd h1 h2
  rw[mT ko,mT ko]at tp;have lM:(iq N (a*b)).length=N:=ip ..;refine EH (CU (e:=0) (b:=.none) tp rfl ?_);rw[List.length_map,lM];simp
  have sM:=tX (h:=[(1,.data 1 ((iq ca a).map u6) true false),(1,.data 1 ((iq cb b).map u6) true false),(1,.data 1 ((iq N (a*b)).map u6) true false)]) (s:=2) rfl lM.symm (len:=(dig Z (a*b)).length) (cap:=N) (qS ltM) (Z5 _);rw[jl ltM]at sM;simp only[List.set_cons_zero,List.set_cons_succ]at sM
  have sMs:AT [(1,.data 1 ((iq ca a).map u6) true false),(1,.data 1 ((iq cb b).map u6) true false),(1,.data 1 ((iq N (a*b)).map u6) true false)] [.ref 2 1 0 (dig Z (a*b)).length N N]=some ([pcs (a*b)],[(1,.data 1 ((iq ca a).map u6) true false),(1,.data 1 ((iq cb b).map u6) true false),(1,.data 1 ((iq N (a*b)).map u6) true true)]):=by
   simp only[AT,sM];rfl
  refine cdz sMs (KH (n:=a*b) (by have:=qS ltM;omega)) ?_;rw[show cj (S (AI (a*b)))=true from rfl,if_pos rfl];exact Cu rfl
theorem HV{B:Nat}{a b:LnQ}(ha:bH B a)(hb:bH B b):bH B (a++b):=by
 intro x hx;rcases Y6.1 hx with h|h
 .exact ha x h
 .exact hb x h
theorem GZ(k:Nat):bH Z (List.replicate k 0):=by intro x hx;rw[List.eq_of_mem_replicate hx];exact xr
theorem Js(k:Nat)(l:LnQ):val Z (l++List.replicate k 0)=val Z l:=by
 rw[val_append]
 have:val Z (List.replicate k 0)=0:=by
  induction k with
  |zero=>rfl
  |succ k ih=>rw[List.replicate_succ];exact(congrArg (fun x=>0+Z*x) ih).trans (by rw[Nat.mul_zero])
 rw[this,Nat.mul_zero,Nat.add_zero]
theorem aeY{q ce x B:Nat}(hB:2<=B)(h3:x+q*B*ce=a+b)(l1:a<q)(l2:b<q):x=a+b:=by
 rcases Yz ce with h|h
 .subst h;rw[Nat.mul_zero,Nat.add_zero]at h3;exact h3
 .have h1:=Zr (q*B) h;have h2:=Zr q hB;omega
theorem abI{D:LnQ}(hA:A.length=n)(hD:D.length=n)(sA:bH Z A)(sD:bH Z D)(va:val Z A=a)(vb:val Z D=b):
  val Z (HA 0 D (D.length+1) 0 0 (A++[0]))=a+b∧bH Z (HA 0 D (D.length+1) 0 0 (A++[0]))∧(HA 0 D (D.length+1) 0 0 (A++[0])).length=n+1:=by
 have sA0:bH Z (A++[0]):=HV sA (GZ 1);obtain⟨h1,h2,ce,h3⟩:=PI (at_:=0) sD (D.length+1) 0 0 (A++[0]) bW aa sA0;have e1:D.drop (0+(D.length+1))=[]:=Ys aa;have e2:val Z (A++[0])=a:=by rw[show([0]:LnQ)=List.replicate 1 0 from rfl,Js,va]
 have e0:val Z ([]:LnQ)=0:=rfl;rw[e1,e2,e0]at h3;have l1:=tQ xr sA;have l2:=tQ xr sD;rw[va,hA]at l1;rw[vb,hD]at l2;have hl:(HA 0 D (D.length+1) 0 0 (A++[0])).length=n+1:=by rw[h1.1];simp[hA]
 refine⟨?_,h2,hl⟩;rw[hD]at h3 ⊢;have h2Z:=ko;generalize val Z (HA 0 D (n+1) 0 0 (A++[0]))=x at *;simp only[Y0,vb,Nat.add_zero,Y9,Nat.pow_zero,Xh,Nat.pow_succ]at h3;exact aeY h2Z h3 l1 l2
theorem acl(k:Nat):cY k [D.int .u64 0]=(List.replicate k 0).map u6:=by
 induction k with
 |zero=>rfl
 |succ k ih=>rw[List.replicate_succ,Z0,<-ih];rfl
theorem UL(a w:Nat)(hw:w<=18):CP Y F.Be [S (AI a),I w] (if ndg a<=w then .tup [I a,B true]else .tup [I 0,B false]):=by
 refine H5 ?_;have la:=E9 a;by_cases h:(w:Int)<ndg a
 .rw[if_neg aa];simp[Be,la,h];exact AO rfl rfl
 .rw[if_pos aa];have ap:=RX (n:=a) (se a) aa (BI a);have en:biF .eql (.d (.pl .nilIface)) (.d (.pl .nilIface))=some (.d (.bool true)):=rfl;simp[Be,la,h];refine cd (args:=[S (AI a)]) ap ?_;simp[en];exact AO rfl rfl
theorem HU(a:Nat):CP Y F.AU [S (AI a)] (.tup [B false,S (AI a)]):=by have h:=J8 (AI a);have e1:rdN (AI a)=false:=decide_eq_false (Ir a);have e2:rdT (AI a)=AI a:=if_neg (Ir a);rw[e1,e2]at h;exact h
theorem aa1(s:LuQ):CP Y F.BA [B false,S s] (S s):=by refine LL ?_;simp[BA]<;>exact Cu rfl
theorem abK{w:Nat}(h1:1<=w)(h2:w<=17)(hn:n<10^w):CP Y F.C7 [S (45::xg n w)] (.tup [I (-(n:Int)),.d (.pl .nilIface)]):=by
 refine Jf ?_;have hl:=Ps w n;have hlt:=Oo w n;have hh:=O8 w n hn;have he:=abg n w;have hD:=RP w n;have hn17:n<10^17:=Zv hn (Zc AF h2);simp only[Nat.reducePow]at hn17;generalize xg n w=L at *;generalize Ni n w=l at *;have hlen:L.length=w:=by rw[hD];simpa using hl
 have hi:ixS (S (45::L)) (.d (.int .i64 0))=some (.d (.int .u8 45)):=by simp[ixS]
 have hlw:sy (S (45::L))=some (I (w+1:Nat)):=by rw[zx];simp[hlen]
 have hsl:slS (S (45::L)) (some (.d (.int .i64 1))) none=some (S L):=by
  have:(1:Int)<=(L.length:Int)+1:=aa;simp[slS,boV,this]
 have hl2:sy (S L)=some (I w):=by rw[zx,hlen]
 simp(disch:=try exact zN)[C7,hlw,hi]
 have hcv:∀(k:kkQ),cvB (S L) [] k=k (lst f8 l) []:=by
  intro k
  have:V.d (.sl L.length (L.map fun b=>.int .u8 b.toNat))=lst f8 l:=by
   unfold lst;rw[hlen,hl,<-he];rfl
  simp only[cvB,this]
 refine D8 (l:=[S L]) (h:=[]) (fun q=>?_) ?_
 .simp(disch:=try exact zN)[hsl,hl2]
 show cvB (S L) [] _
 rw[hcv];simp;refine lo (RY _ _ rfl l [] 0 bW hlt mR ?_);simp[hi,hh];refine D8 (l:=[I (-(n:Int))]) (h:=[]) (fun q=>?_) ?_
 .simp(disch:=try exact zN)[hh]
 exact⟨[],by simp[cX,AT,norm]⟩
theorem abJ{w:Nat}(h1:1<=w)(h2:w<=17)(hn:n<10^w):CP Y F.strconv_Atoi [S (45::xg n w)] (.tup [I (-(n:Int)),.d (.pl .nilIface)]):=by refine J7 ?_;simp[strconv_Atoi];refine cd (abK h1 h2 hn) ?_;simp[Rt];exact⟨[],by simp[cX,AT,norm]⟩
def sdg(z:Int):Nat:=ndg z.natAbs+if z<0 then 1 else 0
theorem Tk(z:Int):sy (S (itoa z))=some (I (sdg z)):=by
 rw[zx];unfold itoa sdg;split
 .simp[AI,A0]
 .simp[AI,A0]
theorem TW(h:sdg z<=18):CP Y F.strconv_Atoi [S (itoa z)] (.tup [I z,.d (.pl .nilIface)]):=by
 unfold sdg at h;by_cases hz:z<0
 .rw[if_pos hz]at h;have:=abJ (n:=z.natAbs) (w:=ndg z.natAbs) (se _) aa (BI _);rw[show(-(z.natAbs:Int))=z by omega]at this;unfold itoa;rw[if_pos hz];exact this
 .rw[if_neg hz]at h;have:=RX (n:=z.natAbs) (w:=ndg z.natAbs) (se _) aa (BI _);rw[show((z.natAbs:Nat):Int)=z by omega]at this;unfold itoa;rw[if_neg hz];exact this
theorem Iq(z:Int)(w:Nat)(hw:w<=18):CP Y F.Be [S (itoa z),I w] (if sdg z<=w then .tup [I z,B true]else .tup [I 0,B false]):=by
 refine H5 ?_;have la:=Tk z;by_cases h:(w:Int)<sdg z
 .rw[if_neg aa];simp[Be,la,h];exact AO rfl rfl
 .rw[if_pos aa];have ap:=TW (z:=z) aa;have en:biF .eql (.d (.pl .nilIface)) (.d (.pl .nilIface))=some (.d (.bool true)):=rfl;simp[Be,la,h];refine cd (args:=[S (itoa z)]) ap ?_;simp[en];exact AO rfl rfl
theorem O2(z:Int):CP Y F.CO [S (itoa z)] (if sdg z<=9 then .tup [I z,B true]else .tup [I 0,B false]):=by
 refine Mo ?_;have la:=Tk z;by_cases h:(9:Int)<sdg z
 .rw[if_neg aa];simp[CO,la,h];exact AO rfl rfl
 .rw[if_pos aa];have ap:=TW (z:=z) aa;have en:biF .eql (.d (.pl .nilIface)) (.d (.pl .nilIface))=some (.d (.bool true)):=rfl;simp[CO,la,h];refine cd (args:=[S (itoa z)]) ap ?_;simp[en];exact AO rfl rfl
theorem Mk(z:Int):rdN (itoa z)=decide (z<0):=by
 unfold itoa;split
 .rename_i h;simp[rdN,h]
 .rename_i h;have:=Ir z.natAbs;unfold rdN;rw[decide_eq_false this,decide_eq_false h]
theorem HT(z:Int):CP Y F.AU [S (itoa z)] (.tup [B (decide (z<0)),S (AI z.natAbs)]):=by have h:=J8 (itoa z);rw[Mk,Je]at h;exact h
theorem HZ(h:AI a=AI b):a=b:=by
 have:=congrArg (ik 0) h
 rwa [B5,B5]at this
theorem aa2{a b:Int}(h:itoa a=itoa b):a=b:=by
 have h1:=congrArg rdT h;have h2:=congrArg rdN h;rw[Je,Je]at h1;rw[Mk,Mk]at h2;have h3:=HZ h1;have h4:(a<0)↔(b<0):=by simpa using h2
 omega
theorem Fa:AI n=[48]↔n=0:=by
 constructor
 .intro h;exact HZ (a:=n) (b:=0) (h.trans Cq.symm)
 .rintro rfl;exact Cq
def sg(b:Bool)(n:Nat):Int:=if b then -(n:Int)else n
theorem Fx(b:Bool)(hn9:ndg n<1000000):CP Y F.BA [B b,S (AI n)] (S (itoa (sg b n))):=by
 refine LL ?_;cases b with
 | false=>
  have:itoa (sg false n)=AI n:=by simp[sg,itoa]
  rw[this];simp[BA]<;>exact Cu rfl
 | true=>
  by_cases hn:n=0
  .subst hn;have e0:itoa (sg true 0)=[48]:=Cq;simp[BA,Cq]<;>exact Cu e0.symm
  .have h0:¬AI n=[48]:=fun h=>hn (Fa.1 h)
   have:itoa (sg true n)=45::AI n:=by
    unfold itoa sg;rw[if_pos rfl,if_pos aa];simp
   rw[this];have hl:(AI n).length=ndg n:=A0 _ _;have ha:biS .add (.d (.str [45])) (S (AI n))=some (S (45::AI n)):=yk [45] (AI n) (by rw[hl];simp;omega);simp[BA,h0,ha]<;>exact Cu rfl
theorem VO(hz:ndg z.natAbs<1000000):CP Y F.GW [S (itoa z)] (S (itoa (-z))):=by
 refine Sd ?_;simp[GW];refine cd (HT z) ?_;simp;have:=Fx (!decide (z<0)) hz
 have e:sg (!decide (z<0)) z.natAbs = -z:=by
  unfold sg;by_cases h:z<0
  .simp[h];omega
  .simp[h];omega
 rw[e]at this;refine cd this ?_;exact Cu rfl
def Bq(n:Nat):Nat:=(dig Z n).length
theorem Oq:Bq n=ndg n/9+1∨Bq n+1=ndg n/9+1:=by
 unfold Bq;have h1:(dig Z n).length<=ndg n/9+1:=(sQ ko).2 (Zv (BI n) (by rw[MI];exact Zc AF aa))
 have h2:ndg n<=9*(dig Z n).length∨n=0:=by
  rcases Yz n with h|h
  .omega
  .left;have h3:n<Z^(dig Z n).length:=(sQ ko).1 (Z5 _);rw[MI]at h3;refine jK h3 ?_;rcases Yz (dig Z n).length with h4|h4
   .grind
   .omega
 rcases h2 with h2|rfl
 .omega
 .have:ndg 0=1:=dQ;omega
theorem RA(n:Nat):n<Z^Bq n:=(sQ ko).1 (Z5 _)
theorem Mq(n:Nat):iq (Bq n) n=dig Z n:=by
 have:=jl (RA n)
 rwa [Zd (by rw[ip];exact Z5 _)]at this
theorem Mp{c:Nat}(h:Bq n+1=c):iq c n=dig Z n++[0]:=by rw[<-h,M5 (RA n),Mq]
theorem Wi{s t n c:Nat}{h:Hp}{q:kkQ}{u:PU q}(hst:s≠t)(hg:h[s]?=some (1,.data 1 ((iq c n).map u6) true false))(ht:h[t]?=some nnQ)(hL:Bq n=c∨Bq n+1=c)(hc:c<1000000)
  (hq:∀s' e' ex h',h'.length=h.length->h'[s']?=some (e',.data 1 ((dig Z n++[0]).map u6) ex false)->(s'=s∨s'=t)->(∀j,j≠s'->h'[j]?=h[j]?)->q (.ref s' e' 0 (Bq n+1) (Bq n+1) (Bq n+1)) h') :
  rh (apV false t 1 8 (.ref s 1 0 (Bq n) c c) (.d (.sl 1 [u6 0])) h) q u:=by
 have hl:=aC hg;have hl2:=aC ht;rcases hL with hL|hL
 .subst hL;rw[Mq]at hg;refine Wh hg ht rfl aa ?_;exact hq t 1 false _ mR (by grind) (.inr rfl) (fun j hj=>by rw[List.getElem?_set_ne (Ne.symm hj)])
 .rw[Mp hL]at hg;have hlen:(dig Z n).length=Bq n:=rfl;refine U3 (x:=0) hg (by grind) aa ?_;rw[<-hL];refine hq s 1 true _ mR ?_ (.inl rfl) (fun j hj=>by rw[List.getElem?_set_ne (Ne.symm hj)])
  have e1:(dig Z n++[0]).take (Bq n)++[0]++(dig Z n++[0]).drop (Bq n+1)=dig Z n++[0]:=by
   rw[<-hlen,Wr,Ys mR,Yf]
  grind
theorem Wg{s t n c k:Nat}{h:Hp}{q:kkQ}{u:PU q}(hst:s≠t)(hg:h[s]?=some (1,.data 1 ((iq c n).map u6) true false))(ht:h[t]?=some nnQ)(hL:Bq n=c∨Bq n+1=c)(hc:c+k<1000000)
  (hq:∀t1 s' h',h'.length=h.length->(s'=s∨s'=t)->(∀j,j≠s'->h'[j]?=h[j]?)->(∃(e':Nat)(l:LnQ)(ex:Bool),h'[s']?=some (e',.data 1 (l.map u6) ex false)) ->
   (∀P:Hp->Prop,(∀g,P g->g[s']?=h'[s']?)->RdS P t1 (dig Z n++List.replicate k 0))->q t1 h') :
  rh (apZ false t 1 8 [.int .u64 0] (.ref s 1 0 (Bq n) c c) (I (k:Nat)) h) q u:=by
 have hl:=aC hg;have hl2:=aC ht;have hlen:(dig Z n).length=Bq n:=rfl;unfold rh apZ;simp only;rw[if_pos ⟨aa,aa⟩];unfold apC;simp only[Int.toNat_natCast]
 have rdOf:∀{s' e' len cap tot:Nat}{l:LnQ}{ex:Bool}{h':Hp},h'[s']?=some (e',.data 1 (l.map u6) ex false)->tot=l.length->len<=tot->l.take len=dig Z n++List.replicate k 0 ->
   ∀P:Hp->Prop,(∀g,P g->g[s']?=h'[s']?)->RdS P (.ref s' e' 0 len cap tot) (dig Z n++List.replicate k 0):=by
  intro s' e' len cap tot l ex h' hg' htot hle htk P hP;refine⟨?_,fun g i hg2 hi=>?_⟩
  .have:(dig Z n++List.replicate k 0).length=len:=by rw[<-htk,Zz];omega
   simp_all
  .have:=(Ov (h:=g) (cap:=cap) ((hP g hg2).trans hg') htot hle).2 [] i (by grind)
   grind
 by_cases hk:k=0
 .rw[if_pos hk,if_pos aa];subst hk;refine hq _ s h rfl (.inl rfl) (fun _ _=>rfl) ⟨_,_,_,hg⟩ ?_;refine rdOf hg (ip ..).symm aa ?_;rw[List.replicate_zero,Yf];rcases hL with hL|hL
  .rw[<-hL,Mq,<-hlen,Xc]
  .rw[Mp hL,<-hlen,Wr]
 .rw[if_neg hk,acl];simp only[Cf hg];rw[if_pos ⟨trivial,by simp[ip],aa,by simp[ip],mR⟩];by_cases hin:Bq n+k<=c
  .rw[if_pos hin];have hk1:k=1:=aa;subst hk1;have hL2:Bq n+1=c:=aa;simp only[Bool.or_self,Zt,if_false,aM]
   have e1:((iq c n).map u6).take (0+Bq n*1)++(List.replicate 1 0).map u6++((iq c n).map u6).drop (0+(Bq n+1)*1)=(dig Z n++[0]).map u6:=by
    rw[Mp hL2,Y9,Y9,X9,X9,<-hlen];simp[<-List.map_take,<-List.map_drop]
   rw[e1];refine hq _ s _ mR (.inl rfl) (fun j hj=>by rw[List.getElem?_set_ne (Ne.symm hj)]) ⟨1,dig Z n++[0],true,by grind⟩ ?_;refine rdOf (l:=dig Z n++[0]) (ex:=true) (by grind) (by grind) aa ?_
   grind
  .rw[if_neg hin,if_pos aa];simp only[if_true,new,ht]
   have e1:(((iq c n).map u6).drop 0).take (Bq n*1)++(List.replicate k 0).map u6=(dig Z n++List.replicate k 0).map u6:=by
    rw[Y0,X9,<-List.map_take,X2];congr 2;rcases hL with hL|hL
    .rw[<-hL,Mq,<-hlen,Xc]
    .rw[Mp hL,<-hlen,Wr]
   rw[e1];have e2:Bq n*1+((List.replicate k 0).map u6).length=Bq n+k:=mR;rw[e2];refine hq _ t _ mR (.inr rfl) (fun j hj=>by rw[List.getElem?_set_ne (Ne.symm hj)]) ⟨1,dig Z n++List.replicate k 0,false,by grind⟩ ?_;refine rdOf (l:=dig Z n++List.replicate k 0) (ex:=false) (by grind) (by grind) aa ?_
   grind[Zd]
def NV(h:Hp):Prop:=∀(j:Nat)(x:Nat×Bk),h[j]?=some x->∀b,gM b x.2=true
theorem NV.all{h:Hp}(hn:NV h)(b:Nat):(h.all fun x=>gM b x.2)=true:=by rw[Z3];intro x hx;obtain⟨j,hj⟩:=W5.1 hx;exact hn j x hj b
theorem NV.upd{h':Hp}(hn:NV h)(hs:h'[s]?=some (e,.data 1 (l.map u6) ex fr))(ho:∀j,j≠s->h'[j]?=h[j]?):NV h':=by
 intro j x hj b;by_cases e1:j=s
 .subst e1;rw[hs]at hj;cases hj;rfl
 .rw[ho j e1]at hj;exact hn j x hj b
theorem ZM{α:Type}{l:List α}{x:α}(h:l[i]?=some x):l.set i x=l:=by
 apply Zh;intro j;by_cases e:i=j
 .grind
 .rw[List.getElem?_set_ne e]
theorem Vv(hs:h[s]?=some (e,.data 1 (l.map u6) ex false)):sP h s e ex l=h:=ZM hs
theorem Qn{h:Hp}{s e n m:Nat}{ex:Bool}{L:LnQ}{w:V}(hn:NV h)(hlt:s<h.length)(h3:L.length=n)(b1:val Z L=m)(b2:bH Z L)(hm:n<1000000)(kk:V->V)(hkk:∀h':Hp,out w (kk (S (AI m))) h'){sl:Nat} :
  cai (CX Y).i (sP h s e ex L) (V.fn F.AK [] []) [.ref s e 0 n n n] sl fun v22 h=>
    cal (CX Y).p h (V.fn F.AR [] []) [v22] fun v23 h=>out w (kk v23) h:=by
 have nv:NV (sP h s e ex L):=hn.upd (Ik hlt) (fun j hj=>by grind[sP]);have tr:=I9 (h:=sP h s e ex L) (nv.all _) (s:=s) (e:=e) (ex:=ex) (fr:=false) (Ik hlt) h3.symm (len:=n) (cap:=n) (Z5 _) aa (Z5 _);have ht:Dt (L.take n)=dig Z m:=by rw[Zd aa,<-b1,sO ko b2]
 rw[ht]at tr;refine GN tr ?_ mR;have lt:m<Z^n:=by rw[<-b1,<-h3];exact tQ xr b2
 have hl:(dig Z m).length<=n:=(sQ ko).2 lt;have sM:=tX (h:=sP h s e ex L) (s:=s) (e:=e) (ex:=ex) (fr:=false) (Ik hlt) h3.symm (len:=(dig Z m).length) (cap:=n) hl (Z5 _)
 have ht2:L.take (dig Z m).length=dig Z m:=by
  have e:Dt L=dig Z m:=by rw[<-ht,Zd aa]
  obtain⟨z,hz⟩:=nU L;rw[e]at hz;rw[hz];exact Wr ..
 rw[ht2]at sM;refine cdz (u:=.mk) (by simp only[AT,sM];rfl) (KH (n:=m) aa) ?_
 grind
theorem Pv(ha:ndg a<1000000)(hb:ndg b<1000000):CP Y F.C9 [S (AI a),S (AI b)] (S (AI (a+b))):=by
 refine Qc ?_;have bo:=Ot a b;by_cases h18:ndg a<=18∧ndg b<=18
 .rw[if_pos h18]at bo;have g3:10^ndg a<=10^18:=Zc AF h18.1;have g4:10^ndg b<=10^18:=Zc AF h18.2;have b1:a<1000000000000000000:=Zv (BI a) g3;have b2:b<1000000000000000000:=Zv (BI b) g4;simp[C9];refine cd bo ?_;obtain⟨m,hm⟩:=mnQ (a+b);have em:(a:Int)+(b:Int)=(m:Int):=aa
  rw[hm];simp(disch:=try exact zN)[em];refine cd (MY (n:=m) aa) ?_;exact Cu rfl
 rw[if_neg h18]at bo;obtain⟨ca,hca⟩:=nmQ (ndg a/9+1);obtain⟨cb,hcb⟩:=nmQ (ndg b/9+1);have cA:=IY (h:=[nnQ,nnQ,nnQ,nnQ,nnQ,nnQ]) rfl (n:=a) aa hca;have cB:=IY (h:=[(1,.data 1 ((iq ca a).map u6) true false),nnQ,nnQ,nnQ,nnQ,nnQ]) rfl (n:=b) aa hcb
 have LA:Bq a=ca∨Bq a+1=ca:=by rw[hca];exact Oq
 have LB:Bq b=cb∨Bq b+1=cb:=by rw[hcb];exact Oq
 have hli:∀h:Hp,BS 1 [D.int .u64 0] [(0,V.d (D.int .u64 0))] h=some ([u6 0],h):=fun h=>by rfl
 have main:∀(p q cp cq sp sq:Nat)(h:Hp),p+q=a+b->Bq q<=Bq p->cp<200000->cq<200000->(Bq p=cp∨Bq p+1=cp)->(Bq q=cq∨Bq q+1=cq)->sp<2->sq<2->sp≠sq->h.length=6->NV h ->
   h[sp]?=some (1,.data 1 ((iq cp p).map u6) true false)->h[sq]?=some (1,.data 1 ((iq cq q).map u6) true false)->h[2]?=some nnQ->h[3]?=some nnQ ->
   apV false 2 1 8 (.ref sp 1 0 (Bq p) cp cp) (.d (.sl 1 [u6 0])) h fun v15 h=>
   bnd (fL v15) fun v16=>
   bnd (biI .sub v16 (.d (.int .i64 1))) fun v17=>
   bnd (fL (.ref sq 1 0 (Bq q) cq cq)) fun v18=>
   bnd (biI .sub v17 v18) fun v19=>
   apZ false 3 1 8 [.int .u64 0] (.ref sq 1 0 (Bq q) cq cq) v19 h fun v20 h=>
   cai (CX Y).i h (.fn F.BC [] []) [v15,v20,(.d (.int .i64 0))] 4 fun v21 h=>
   cai (CX Y).i h (.fn F.AK [] []) [v15] 5 fun v22 h=>
   cal (CX Y).p h (.fn F.AR [] []) [v22] fun v23 h=>
   out (S (AI (a+b))) v23 h:=by
  intro p q cp cq sp sq h hpq hle hcp hcq LP LQ hsp hsq hne hlen hnv gp gq g2 g3;refine Wi (u:=.mk) (t:=2) aa gp g2 LP aa fun s' e' ex h1 l1 gs' hs' o1=>?_
  obtain⟨k,hk⟩:=nmQ (Bq p-Bq q);have e1:(Bq p:Int)+1-1-(Bq q:Int)=(k:Int):=aa;have hr1:fL (.ref s' e' 0 (Bq p+1) (Bq p+1) (Bq p+1))=some (I (Bq p+1:Nat)):=rfl;have hr2:fL (.ref sq 1 0 (Bq q) cq cq)=some (I (Bq q:Nat)):=rfl
  have hb1:biI .sub (I ((Bq p+1:Nat):Int)) (.d (.int .i64 1))=some (I (Bq p)):=by
   rw[ta,show(((Bq p+1:Nat):Int)-1)=(Bq p:Int) by omega,vd aa aa]
  have hb2:biI .sub (I (Bq p:Int)) (I (Bq q:Int))=some (I k):=by
   rw[ta,show((Bq p:Int)-(Bq q:Int))=(k:Int) by omega,vd aa aa]
  simp only[hr1,hr2,hb1,hb2,bnd];have nv1:=hnv.upd gs' o1;have hqs:sq≠s':=by rcases hs' with rfl|rfl<;>omega
  have h3s:3≠s':=by rcases hs' with rfl|rfl<;>omega
  refine Wg (u:=.mk) (t:=3) aa ((o1 sq hqs).trans gq) ((o1 3 h3s).trans g3) LQ aa fun t1 s2 h2 l2 hs2 o2 ⟨e2,l2',ex2,g2'⟩ rd=>?_
  have nv2:=nv1.upd g2' o2;have hss:s'≠s2:=by rcases hs2 with rfl|rfl<;>omega
  have gs2:h2[s']?=some (e',.data 1 ((dig Z p++[0]).map u6) ex false):=(o2 s' hss).trans gs';have lt2:s'<h2.length:=aC gs2;have hdl:(dig Z q++List.replicate k 0).length=Bq p:=by simp only[Zy,Yy];show Bq q+k=_;omega
  have sD:bH Z (dig Z q++List.replicate k 0):=HV (jq ko q) (GZ _);have vD:val Z (dig Z q++List.replicate k 0)=q:=by rw[Js,mT ko]
  have rdS:=rd (fun t=>∃l,t=sP h2 s' e' ex l) (fun g ⟨l,hg⟩=>by grind[sP]);obtain⟨c1,c2,c3⟩:=abI (n:=Bq p) rfl hdl (jq ko p) sD (mT ko p) vD;have bk:=TU (at_:=0) (tot:=Bq p+1) (l:=dig Z p++[0]) (ex:=ex) (e:=e') (s:=s') (h:=h2) (nv2.all _) lt2 rdS sD aa aa (by simp[Bq]) (HV (jq ko p) (GZ 1))
  rw[Vv gs2]at bk;refine GN bk ?_ mR;rw[hpq]at c1;exact Qn nv2 lt2 c3 c1 c2 aa (fun v=>v) (fun _=>Cu rfl)
 simp[C9];refine cd bo ?_;simp;refine EH (CU (e:=0) (b:=.none) cA rfl ?_);rw[List.length_map,ip];simp;refine EH (CU (e:=0) (b:=.none) cB rfl ?_);rw[List.length_map,ip]
 have nv:NV [(1,.data 1 ((iq ca a).map u6) true false),(1,.data 1 ((iq cb b).map u6) true false),nnQ,nnQ,nnQ,nnQ]:=by
  intro j x hj b';rcases W5.2 ⟨j,hj⟩with hm;simp only[Zs,Ye,or_false]at hm;rcases hm with rfl|rfl|rfl|rfl|rfl|rfl<;>rfl
 by_cases g1:((dig Z a).length:Int)<((dig Z b).length:Int)
 .simp[g1];refine AN ?_;simp[hli];exact main b a cb ca 1 0 _ aa (by grind[Bq]) aa aa LB LA aa aa aa rfl nv rfl rfl rfl rfl
 .simp[g1];refine AN ?_;simp[hli];exact main a b ca cb 0 1 _ rfl (by grind[Bq]) aa aa LA LB aa aa aa rfl nv rfl rfl rfl rfl
theorem QH:∀(s t:LuQ)(c:Nat),s.length=t.length->s.all zF=true->t.all zF=true->Op.bytesLess s t=decide (ik c s<ik c t)
 |[],[],c,_,_,_=>by simp[Op.bytesLess]
 | x::s,y::t,c,hl,hs,ht=>by
  simp only[List.length_cons,Nat.add_right_cancel_iff]at hl;simp only[List.all_cons,Z7]at hs ht;have hx:=E6.1 hs.1;have hy:=E6.1 ht.1
  have key:∀(s t:LuQ)(u v:Nat),s.length=t.length->s.all zF=true->u<v->ik u s<ik v t:=by
   intro s t u v hl hs h;have h1:=Jg s u hs;have h2:=O9 t v;rw[<-hl]at h2;have h3:(u+1)*10^s.length<=v*10^s.length:=Zw _ h;omega
  rw[uD,uD];have ex:x<y↔x.toNat<y.toNat:=UInt8.lt_iff_toNat_lt;have ey:y<x↔y.toNat<x.toNat:=UInt8.lt_iff_toNat_lt;rcases Nat.lt_trichotomy x.toNat y.toNat with h|h|h
  .have:=key s t (c*10+(x.toNat-48)) (c*10+(y.toNat-48)) hl hs.2 aa
   grind[Op.bytesLess]
  .have e:x=y:=UInt8.toNat_inj.1 h;subst e;rw[<-QH s t _ hl hs.2 ht.2];simp[Op.bytesLess]
  .have:=key t s (c*10+(y.toNat-48)) (c*10+(x.toNat-48)) hl.symm ht.2 aa;rw[decide_eq_false aa]
   grind[Op.bytesLess]
theorem QI(n:Nat):(AI n).all zF=true:=Kw _ _
theorem QG(h:ndg a=ndg b):Op.bytesLess (AI a) (AI b)=decide (a<b):=by rw[QH (AI a) (AI b) 0 (by rw[AI,AI,A0,A0,h]) (QI _) (QI _),B5,B5]
theorem aaB(h:ndg a<ndg b):a<b:=by
 rcases Zx a b with g|g
 .exact g
 .have:=B3 g;omega
theorem Pz(h:a<b):Big.cmp a b = -1:=if_pos h
theorem PC(h:b<a):Big.cmp a b=1:=(if_neg aa).trans (if_pos h)
theorem cmp_eq:Big.cmp a a=0:=(if_neg aa).trans (if_neg aa)
theorem K3(ha:ndg a<1000000)(hb:ndg b<1000000):CP Y F.Bs [S (AI a),S (AI b)] (I (Big.cmp a b)):=by
 refine Mu ?_;have la:=E9 a;have lb:=E9 b;by_cases hl:ndg a=ndg b
 .have h1:=QG hl;have h2:=QG hl.symm;have e1:biS .lss (S (AI a)) (S (AI b))=some (.d (.bool (decide (a<b)))):=by rw[<-h1];rfl
  have e2:biS .gtr (S (AI a)) (S (AI b))=some (.d (.bool (decide (b<a)))):=by
   have h3:(AI a == AI b)=decide (a=b):=by
    rw[X5];simp only[beq_iff_eq,decide_eq_true_eq];exact⟨HZ,fun h=>by rw[h]⟩
   have h4:decide (b<a) = !(decide (a<b)||decide (a=b)):=by
    rw[X5];simp only[decide_eq_true_eq,Zp,Bool.or_eq_false_iff,decide_eq_false_iff_not];omega
   rw[h4,<-h1,<-h3];rfl
  rw[hl]at la;by_cases g1:a<b
  .simp[Bs,la,lb,e1,e2,g1]
   grind[A3,Pz]
  .by_cases g2:b<a
   .simp[Bs,la,lb,e1,e2,g1,g2]
    grind[A3,PC]
   .simp[Bs,la,lb,e1,e2,g1,g2];have:a=b:=aa
    grind[A3,cmp_eq]
 .have hne:¬((ndg a:Int)=(ndg b:Int)):=aa;rcases Zx (ndg a) (ndg b)with h|h
  .have h3:=aaB h;have m1:mxI true [.d (.int .i64 (-1)),I ((ndg a:Int)-ndg b)]=some (I (-1)):=by simp[mxI,mx2];omega
   have m2:mxI false [.d (.int .i64 1),I (-1)]=some (I (-1)):=rfl;simp(disch:=try exact zN)[Bs,la,lb,hne,m1,m2]
   grind[A3,Pz]
  .have h3:b<a:=aaB aa;have m1:mxI true [.d (.int .i64 (-1)),I ((ndg a:Int)-ndg b)]=some (I ((ndg a:Int)-ndg b)):=by simp[mxI,mx2];omega
   have m2:mxI false [.d (.int .i64 1),I ((ndg a:Int)-ndg b)]=some (I 1):=by simp[mxI,mx2];omega
   simp(disch:=try exact zN)[Bs,la,lb,hne,m1,m2]
   grind[A3,PC]
theorem S8:1<Z:=ko
theorem YP{D:LnQ}(hA:A.length=n)(hD:D.length=n)(sA:bH Z A)(sD:bH Z D)(va:val Z A=a)(vb:val Z D=b)(hba:b<=a):
  val Z (DG 1 0 D (D.length+1) 0 0 0 (A++[0])).2=a-b∧bH Z (DG 1 0 D (D.length+1) 0 0 0 (A++[0])).2∧(DG 1 0 D (D.length+1) 0 0 0 (A++[0])).2.length=n+1:=by
 have sA0:bH Z (A++[0]):=HV sA (GZ 1);have l2:=tQ xr sD;rw[vb,hD]at l2
 obtain ⟨h1,h2,h3,h4⟩:=OG (g:=1) (at_:=0) S8 sD (D.length+1) 0 0 0 (A++[0]) bW xr (Zg _) sA0 (by
  rw[Y0,vb,hD,Xh,Y9,Nat.pow_succ];exact Zv l2 (Zj _ xr))
 have e2:val Z (A++[0])=a:=by rw[show([0]:LnQ)=List.replicate 1 0 from rfl,Js,va]
 have hl:(DG 1 0 D (D.length+1) 0 0 0 (A++[0])).2.length=n+1:=by rw[h1.1];simp[hA]
 refine⟨?_,h2,hl⟩;have h5:=tQ xr h2;rw[hl]at h5;rw[e2,Y0,vb,hD]at h4;rw[hD]at h3 h5 ⊢;generalize val Z (DG 1 0 D (n+1) 0 0 0 (A++[0])).2=x at *;generalize(DG 1 0 D (n+1) 0 0 0 (A++[0])).1=c at *;simp only[Y9,Nat.add_zero,Nat.pow_zero,Xh]at h4;rcases Yz c with h|h
 .subst h;omega
 .have:c=1:=aa;subst this;rw[X9]at h4;omega
theorem Nh(hba:b<=a)(ha:ndg a<1000000):CP Y F.DO [S (AI a),S (AI b)] (.tup [S (AI (a-b)),I 0]):=by
 have hb:ndg b<1000000:=Yx (B3 hba) ha;refine P6 ?_;have bo:=Ot a b;have dc:=K3 ha hb
 have hc:¬Big.cmp a b<0:=by
  unfold Big.cmp;rw[if_neg aa];split<;>omega
 have hc2:(-1:Int)<=Big.cmp a b∧Big.cmp a b<=1:=by
  unfold Big.cmp;split
  .omega
  .split<;>omega
 generalize Big.cmp a b=cc at *;simp[DO];refine cd dc ?_;simp[hc];by_cases h18:ndg a<=18∧ndg b<=18
 .rw[if_pos h18]at bo;have g3:10^ndg a<=10^18:=Zc AF h18.1;have b1:a<1000000000000000000:=Zv (BI a) g3;refine cd bo ?_;obtain⟨m,hm⟩:=mnQ (a-b);have em:(a:Int)-(b:Int)=(m:Int):=aa;rw[hm];simp(disch:=try exact zN)[em];refine cd (MY (n:=m) aa) ?_;exact AO rfl rfl
 rw[if_neg h18]at bo;obtain⟨ca,hca⟩:=nmQ (ndg a/9+1);obtain⟨cb,hcb⟩:=nmQ (ndg b/9+1);have cA:=IY (h:=[nnQ,nnQ,nnQ,nnQ,nnQ,nnQ,nnQ]) rfl (n:=a) aa hca;have LA:Bq a=ca∨Bq a+1=ca:=by rw[hca];exact Oq
 have LB:Bq b=cb∨Bq b+1=cb:=by rw[hcb];exact Oq
 have hle:Bq b<=Bq a:=(sQ ko).2 (Yx hba (RA a));have hli:∀h:Hp,BS 1 [D.int .u64 0] [(0,V.d (D.int .u64 0))] h=some ([u6 0],h):=fun h=>by simp[BS,cY,eA,toD,u6]
 refine cd bo ?_;simp;refine EH (CU (e:=0) (b:=.none) cA rfl ?_);rw[List.length_map,ip];simp[hli]
 have nv:NV [(1,.data 1 ((iq ca a).map u6) true false),nnQ,nnQ,nnQ,nnQ,nnQ,nnQ]:=by
  intro j x hj b';rcases W5.2 ⟨j,hj⟩with hm;simp only[Zs,Ye,or_false]at hm;rcases hm with rfl|rfl|rfl|rfl|rfl|rfl|rfl<;>rfl
 refine Wi (s:=0) (t:=1) (n:=a) (c:=ca) aa rfl rfl LA aa fun s1 e1 ex1 h1 l1 g1 hs1 o1=>?_
 have nv1:=nv.upd g1 o1;have k1:∀j,2<=j->h1[j]?=([(1,.data 1 ((iq ca a).map u6) true false),nnQ,nnQ,nnQ,nnQ,nnQ,nnQ]:Hp)[j]?:=fun j hj=>o1 j aa
 have hr1:fL (.ref s1 e1 0 (Bq a+1) (Bq a+1) (Bq a+1))=some (I (Bq a+1:Nat)):=rfl
 have hb1:biI .sub (I ((Bq a+1:Nat):Int)) (.d (.int .i64 1))=some (I (Bq a)):=by
  rw[ta,show(((Bq a+1:Nat):Int)-1)=(Bq a:Int) by omega,vd aa aa]
 -- the second number,twice
 have cB:=IY (h:=h1) (nv1.all _) (n:=b) aa hcb;refine EH (u:=.mk) (CU (e:=0) (b:=.none) cB (k1 2 aa) ?_);rw[List.length_map,ip];have l2:(h1.set 2 (1,.data 1 ((iq cb b).map u6) true false)).length=7:=by simp[l1]
 have n2:(2:Nat)<h1.length:=by rw[l1];simp
 have g2:(h1.set 2 (1,.data 1 ((iq cb b).map u6) true false))[2]?=some (1,.data 1 ((iq cb b).map u6) true false):=by simp[n2]
 have o2:∀j,j≠2->(h1.set 2 (1,.data 1 ((iq cb b).map u6) true false))[j]?=h1[j]?:=fun j hj=>by rw[List.getElem?_set_ne (Ne.symm hj)]
 have nv2:=nv1.upd g2 o2;generalize h1.set 2 (1,.data 1 ((iq cb b).map u6) true false)=h2 at *
 show bnd (fL (.ref s1 e1 0 (Bq a+1) (Bq a+1) (Bq a+1))) _
 simp only[hr1,hb1,bnd];have cB2:=IY (h:=h2) (nv2.all _) (n:=b) aa hcb;refine EH (u:=.mk) (CU (e:=0) (b:=.none) cB2 ((o2 3 AF).trans (k1 3 aa)) ?_);rw[List.length_map,ip];have n3:(3:Nat)<h2.length:=by rw[l2];simp
 have g3:(h2.set 3 (1,.data 1 ((iq cb b).map u6) true false))[3]?=some (1,.data 1 ((iq cb b).map u6) true false):=by simp[n3]
 have o3:∀j,j≠3->(h2.set 3 (1,.data 1 ((iq cb b).map u6) true false))[j]?=h2[j]?:=fun j hj=>by rw[List.getElem?_set_ne (Ne.symm hj)]
 have nv3:=nv2.upd g3 o3;generalize h2.set 3 (1,.data 1 ((iq cb b).map u6) true false)=h3 at *;obtain⟨k,hk⟩:=nmQ (Bq a-Bq b);have hr2:fL (.ref 3 (0+1) 0 (Bq b) cb cb)=some (I (Bq b:Nat)):=rfl
 have hb2:biI .sub (I (Bq a:Int)) (I (Bq b:Int))=some (I k):=by
  rw[ta,show((Bq a:Int)-(Bq b:Int))=(k:Int) by omega,vd aa aa]
 simp only[show fL (V.ref 3 (0+1) 0 (dig Z b).length cb cb)=some (I (Bq b:Nat))from rfl,hb2];have q2:h3[2]?=some (1,.data 1 ((iq cb b).map u6) true false):=(o3 2 AF).trans g2;have q4:h3[4]?=some nnQ:=((o3 4 AF).trans (o2 4 AF)).trans (k1 4 aa)
 refine Wg (u:=.mk) (s:=2) (t:=4) aa q2 q4 LB aa fun t1 s4 h4 l4 hs4 o4 ⟨e4,l4',ex4,g4⟩ rd=>?_
 have nv4:=nv3.upd g4 o4;have hss:s1≠s4:=by rcases hs1 with rfl|rfl<;>rcases hs4 with rfl|rfl<;>omega
 have h12:s1≠2∧s1≠3:=by rcases hs1 with rfl|rfl<;>omega
 have gs:h4[s1]?=some (e1,.data 1 ((dig Z a++[0]).map u6) ex1 false):=(((o4 s1 hss).trans (o3 s1 h12.2)).trans (o2 s1 h12.1)).trans g1;have lt4:=aC gs;have hdl:(dig Z b++List.replicate k 0).length=Bq a:=by simp only[Zy,Yy];show Bq b+k=_;omega
 have sD:bH Z (dig Z b++List.replicate k 0):=HV (jq ko b) (GZ _);have vD:val Z (dig Z b++List.replicate k 0)=b:=by rw[Js,mT ko]
 have rdS:=rd (fun t=>∃l,t=sP h4 s1 e1 ex1 l) (fun g ⟨l,hg⟩=>by rw[hg];unfold sP;rw[List.getElem?_set_ne hss]);obtain⟨c1,c2,c3⟩:=YP (n:=Bq a) rfl hdl (jq ko a) sD (mT ko a) vD hba
 have bk:=Sz (g:=1) (at_:=0) (tot:=Bq a+1) (l:=dig Z a++[0]) (ex:=ex1) (e:=e1) (s:=s1) (h:=h4) (nv4.all _) lt4 rdS sD S8 (by rw[hdl];omega) aa (by simp[Bq]) (HV (jq ko a) (GZ 1));rw[Vv gs]at bk;refine EH (u:=.mk) (GN bk ?_ mR);exact Qn nv4 lt4 c3 c1 c2 aa (fun v=>.tup [v,I 0]) (fun _=>AO rfl rfl)
theorem KJ{w:Nat}(h:sdg z<=w):z.natAbs<10^w:=by
 have:ndg z.natAbs<=w:=by unfold sdg at h;omega
 exact Zv (BI _) (Zc AF this)
theorem Ip(h1 : -9223372036854775808<z)(h2:z<9223372036854775808):CP Y F.Cv [I z] (S (itoa z)):=by refine Ow ?_;simp[Cv];refine cd (Om h1 h2) ?_;exact Cu rfl
theorem JA(ha:ndg a<=k)(hb:ndg b<=k):ndg (a+b)<=k+1:=by have h1:a<10^k:=Zv (BI a) (Zc AF ha);have h2:b<10^k:=Zv (BI b) (Zc AF hb);exact jK (by rw[Nat.pow_succ];omega) aa
theorem abQ(hz:ndg z.natAbs<999999)(hw:ndg w.natAbs<999999): 
  cal (CX Y).p [] (.fn F.AU [] []) [S (itoa z)] fun v6 h=>
  ext v6 0 fun v7=>
  ext v6 1 fun v8=>
  cal (CX Y).p h (.fn F.AU [] []) [S (itoa w)] fun v9 h=>
  ext v9 0 fun v10=>
  ext v9 1 fun v11=>
  bnd (biB .eql v7 v10) fun v12=>
  cnd v12 (
   cal (CX Y).p h (.fn F.C9 [] []) [v8,v11] fun v13 h=>
   cal (CX Y).p h (.fn F.BA [] []) [v7,v13] fun v14 h=>
   out (S (itoa (z+w))) v14 h) (
   cal (CX Y).p h (.fn F.Bs [] []) [v8,v11] fun v15 h=>
   bnd (biI .lss v15 (.d (.int .i64 0))) fun v16=>
   jn (fun l17 h=>
    cal (CX Y).p h (.fn F.DO [] []) [(ge l17 1),(ge l17 2)] fun v19 h=>
    ext v19 0 fun v20=>
    ext v19 1 fun v21=>
    cal (CX Y).p h (.fn F.BA [] []) [(ge l17 0),v20] fun v22 h=>
    out (S (itoa (z+w))) v22 h) fun q18=>
    cnd v16 (
     q18 [v10,v11,v8] h) (
     q18 [v7,v8,v11] h)):=by
 simp;refine cd (HT z) ?_;simp;refine cd (HT w) ?_;have eb:biB .eql (B (decide (z<0))) (B (decide (w<0)))=some (B (decide (z<0) == decide (w<0))):=rfl;simp[eb];by_cases hs:(z<0↔w<0)
 .simp[hs];refine cd (Pv (a:=z.natAbs) (b:=w.natAbs) aa aa) ?_;simp;have hk:ndg (z.natAbs+w.natAbs)<=999999:=JA aa aa;refine cd (Fx (decide (z<0)) (n:=z.natAbs+w.natAbs) aa) ?_;refine Cu ?_;congr 1;unfold sg;by_cases h:z<0
  .simp[h];omega
  .simp[h];omega
 .simp[hs];refine cd (K3 (a:=z.natAbs) (b:=w.natAbs) aa aa) ?_;simp;by_cases hlt:z.natAbs<w.natAbs
  .have hc:Big.cmp z.natAbs w.natAbs<0:=by rw[Pz hlt];decide
   refine D8 (l:=[B (decide (w<0)),S (AI w.natAbs),S (AI z.natAbs)]) (h:=[]) (fun q=>by simp[hc]) ?_;simp;refine cd (Nh (a:=w.natAbs) (b:=z.natAbs) aa aa) ?_;simp;refine cd (Fx (decide (w<0)) (n:=w.natAbs-z.natAbs) (Yx (B3 (Nat.sub_le ..)) aa)) ?_;refine Cu ?_;congr 1;unfold sg;by_cases h:w<0
   .simp[h];omega
   .simp[h];omega
  ·have hc:¬Big.cmp z.natAbs w.natAbs<0:=by
    rcases Nat.eq_or_lt_of_not_lt hlt with h|h
    .rw[h,cmp_eq];decide
    .rw[PC h];decide
   refine D8 (l:=[B (decide (z<0)),S (AI z.natAbs),S (AI w.natAbs)]) (h:=[]) (fun q=>by simp[hc]) ?_;simp;refine cd (Nh (a:=z.natAbs) (b:=w.natAbs) aa aa) ?_;simp;refine cd (Fx (decide (z<0)) (n:=z.natAbs-w.natAbs) (Yx (B3 (Nat.sub_le ..)) aa)) ?_;refine Cu ?_;congr 1;unfold sg;by_cases h:z<0
   .simp[h];omega
   .simp[h];omega
theorem LM(hz:ndg z.natAbs<999999)(hw:ndg w.natAbs<999999):CP Y F.BL [S (itoa z),S (itoa w)] (S (itoa (z+w))):=by
 refine Sj ?_;have l1:=Iq z 18 AF;have l2:=Iq w 18 AF;have tl:=abQ hz hw;simp[BL];refine cd l1 ?_;by_cases h1:sdg z<=18
 .rw[if_pos h1];simp;by_cases h2:sdg w<=18
  .rw[if_pos h2]at l2;refine AN ?_;simp;refine cd l2 ?_;have b1:=KJ h1;have b2:=KJ h2;simp only[Nat.reducePow]at b1 b2;obtain⟨m,hm⟩:=mnQ (z+w);rw[hm];simp(disch:=try exact zN)[hm];refine cd (Ip (z:=m) aa aa) ?_;exact Cu rfl
  .rw[if_neg h2]at l2;refine AN ?_;simp;refine cd l2 ?_;simp;simpa using tl
 .rw[if_neg h1];simp;refine AN ?_;simp;simpa using tl
theorem J3(hz:ndg z.natAbs<400000)(hw:ndg w.natAbs<400000):CP Y F.A7 [S (itoa z),S (itoa w)] (S (itoa (z*w))):=by
 refine Se ?_;have l1:=Iq z 9 AF;have l2:=Iq w 9 AF;have dm:=QM (a:=z.natAbs) (b:=w.natAbs) aa aa
 have hk:ndg (z.natAbs*w.natAbs)<1000000:=by
  have h1:=BI z.natAbs;have h2:=BI w.natAbs;have h3:z.natAbs*w.natAbs<10^(ndg z.natAbs+ndg w.natAbs):=by rw[Yh];exact Yd h1 h2
  have:=jK h3 (by have:=se z.natAbs;omega);omega
 have e:sg (decide (z<0) !=decide (w<0)) (z.natAbs*w.natAbs)=z*w:=by
  unfold sg;by_cases h1:z<0<;>by_cases h2:w<0
  .simp[h1,h2];rw[Xp aa,Xp aa,Int.neg_mul_neg]
  .simp[h1,h2];rw[Xp aa,Wz aa,Int.neg_mul,Int.neg_neg]
  .simp[h1,h2];rw[Wz aa,Xp aa,Int.mul_neg,Int.neg_neg]
  .simp[h1,h2];rw[Wz aa,Wz aa]
 have eb:biB .neq (B (decide (z<0))) (B (decide (w<0)))=some (B (decide (z<0) !=decide (w<0))):=rfl;have jo:=Fx (decide (z<0) !=decide (w<0)) hk;rw[e]at jo
 have tail:∀u:Unit,cal (CX Y).p [] (.fn F.AU [] []) [S (itoa z)] fun v6 h=>
  ext v6 0 fun v7=>
  ext v6 1 fun v8=>
  cal (CX Y).p h (.fn F.AU [] []) [S (itoa w)] fun v9 h=>
  ext v9 0 fun v10=>
  ext v9 1 fun v11=>
  bnd (biB .neq v7 v10) fun v12=>
  cal (CX Y).p h (.fn F.Ep [] []) [v8,v11] fun v13 h=>
  cal (CX Y).p h (.fn F.BA [] []) [v12,v13] fun v14 h=>
  out (S (itoa (z*w))) v14 h:=by
  intro _;simp;refine cd (HT z) ?_;simp;refine cd (HT w) ?_;simp[eb];refine cd dm ?_;simp;refine cd jo ?_;exact Cu rfl
 simp[A7];refine cd l1 ?_;by_cases h1:sdg z<=9
 .rw[if_pos h1];simp;by_cases h2:sdg w<=9
  .rw[if_pos h2]at l2;refine AN ?_;simp;refine cd l2 ?_;have b1:=KJ h1;have b2:=KJ h2
   have hmb:(z*w).natAbs<1000000000000000000:=by
    rw[Yr];exact Yd b1 b2
   obtain⟨m,hm⟩:=mnQ (z*w);rw[hm]at hmb ⊢;simp(disch:=try exact zN)[hm];refine cd (Ip (z:=m) aa aa) ?_;exact Cu rfl
  .rw[if_neg h2]at l2;refine AN ?_;simp;refine cd l2 ?_;simp;simpa using tail ()
 .rw[if_neg h1];simp;refine AN ?_;simp;simpa using tail ()
theorem E5(n:Nat):itoa (n:Int)=AI n:=by rfl
theorem ab8(n:Nat):sgn (n:Int)=if n=0 then 0 else 1:=by
 unfold sgn;by_cases h:n=0
 .simp[h]
 .rw[if_neg aa,if_neg aa,if_neg h]
theorem SR(n:Nat):CP Y F.BR [S (AI n)] (I (if n=0 then 0 else 1)):=by
 have:=Hh (n:Int)
 grind[E5,ab8]
theorem Sm(ha:ndg a<1000000)(hb:ndg b<1000000):CP Y F.Er [S (AI a),S (AI b)] (I (Big.cmp a b)):=by
 refine NI ?_;have s1:=SR a;have s2:=SR b;simp[Er];by_cases h1:a=0
 .rw[if_pos h1]at s1;by_cases h2:b=0
  .rw[if_pos h2]at s2;refine cd s1 ?_;simp;refine cd s2 ?_;simp;refine cd (HU a) ?_;simp;refine cd (HU b) ?_;simp;refine D8 (l:=[S (AI a),S (AI b)]) (h:=[]) (fun q=>by simp) ?_;simp;refine cd (K3 ha hb) ?_;simp
  .rw[if_neg h2]at s2;refine cd s1 ?_;simp;refine cd s2 ?_;simp;exact A3 (Pz aa).symm
 .rw[if_neg h1]at s1;by_cases h2:b=0
  .rw[if_pos h2]at s2;refine cd s1 ?_;simp;refine cd s2 ?_;simp;exact A3 (PC aa).symm
  .rw[if_neg h2]at s2;refine cd s1 ?_;simp;refine cd s2 ?_;simp;refine cd (HU a) ?_;simp;refine cd (HU b) ?_;simp;refine D8 (l:=[S (AI a),S (AI b)]) (h:=[]) (fun q=>by simp) ?_;simp;refine cd (K3 ha hb) ?_;simp
theorem Pm(hb:0<b):(-(a:Int))/(b:Int)=(if a%b=0 then -((a/b:Nat):Int)else -((a/b+1:Nat):Int))∧(-(a:Int))%(b:Int)=(if a%b=0 then 0 else((b-a%b:Nat):Int)):=by
 have h1:=X4 a b;have h2:=Yt a hb;have hbz:(b:Int)>0:=aa;generalize a%b=r at *;generalize a/b=q at *;by_cases h:r=0
 .subst h;simp only[if_true]
  have e:(-(a:Int))=(b:Int)*(-(q:Int)):=by
   rw[Int.mul_neg,<-Int.natCast_mul];congr 1;omega
  rw[e];exact⟨Int.mul_ediv_cancel_left _ aa,Int.mul_emod_right _ _⟩
 .simp only[if_neg h]
  have e:(-(a:Int))=((b-r:Nat):Int)+(b:Int)*(-((q+1:Nat):Int)):=by
   have:(a:Int)=(b:Int)*q+r:=by rw[<-Int.natCast_mul];omega
   rw[this,Int.mul_neg,Int.natCast_add,Int.mul_add];have:((b-r:Nat):Int)=(b:Int)-r:=aa;omega
  have l1:(0:Int)<=((b-r:Nat):Int):=aa;have l2:((b-r:Nat):Int)<(b:Int):=aa;rw[e];constructor
  .rw[Int.add_mul_ediv_left _ _ aa,Int.ediv_eq_zero_of_lt l1 l2,Xt]
  .rw[Int.add_mul_emod_self_left,Int.emod_eq_of_lt l1 l2]
theorem Me:ndg 1=1:=dQ
theorem KU{a b a' b':LuQ}(e1:a'=a)(e2:b'=b):out (.tup [S a,S b,I c]) (.tup [S a',S b',I c]) h:=by simp_all[Ej]
theorem ac1(hb:0<b)(hz:ndg z.natAbs<900000)(hbd:ndg b<900000):
   cal (CX Y).p [] (.fn F.AU [] []) [S (itoa z)] fun v7 h=>
   ext v7 0 fun v8=>
   ext v7 1 fun v9=>
   cal (CX Y).p h (.fn F.AU [] []) [S (AI b)] fun v10 h=>
   ext v10 0 fun v11=>
   ext v10 1 fun v12=>
   cal (CX Y).p h (.fn F.Cn [] []) [v9,v12] fun v13 h=>
   ext v13 0 fun v14=>
   ext v13 1 fun v15=>
   ext v13 2 fun v16=>
   bnd (biI .neq v16 (.d (.int .i64 0))) fun v17=>
   cnd v17 (
    out (.tup [S (itoa (z/b)),S (itoa (z%b)),I 0]) (.tup [(.d (.str [])),(.d (.str [])),v16]) h) (
    bnd (biB .neq v8 v11) fun v18=>
    gd v18 true h (fun q=>q v15 h) fun v19 h=>
    gd v18 true h (fun q=>bnd (biS .neq v19 (.d (.str [48]))) fun v=>q v h) fun v20 h=>
    bnd (Hk v18 v20 (.d (.bool false))) fun v21=>
    jn (fun l22 h=>
     bnd (biB .neq v8 v11) fun v24=>
     cal (CX Y).p h (.fn F.BA [] []) [v24,(ge l22 0)] fun v25 h=>
     cal (CX Y).p h (.fn F.BA [] []) [v11,(ge l22 1)] fun v26 h=>
     out (.tup [S (itoa (z/b)),S (itoa (z%b)),I 0]) (.tup [v25,v26,(.d (.int .i64 0))]) h) fun q23=>
     cnd v21 (
      cal (CX Y).p h (.fn F.C9 [] []) [v14,(.d (.str [49]))] fun v27 h=>
      cal (CX Y).p h (.fn F.DO [] []) [v12,v15] fun v28 h=>
      ext v28 0 fun v29=>
      ext v28 1 fun v30=>
      q23 [v27,v29] h) (
      q23 [v14,v15] h)):=by
 have hq:ndg (z.natAbs/b)<=ndg z.natAbs:=B3 (Yk ..);have hr:z.natAbs%b<b:=Yt _ hb;have hr2:ndg (z.natAbs%b)<=ndg b:=B3 aa
 have eb:biB .neq (B (decide (z<0))) (B false)=some (B (decide (z<0))):=by
  show some (B (decide (z<0) !=false))=_
  rw[Bool.bne_false]
 simp;refine cd (HT z) ?_;simp;refine cd (HU b) ?_;simp;refine cd (Na (a:=z.natAbs) hb aa aa) ?_;by_cases hneg:z<0
 .have ez:z = -(z.natAbs:Int):=aa;obtain⟨d1,d2⟩:=Pm (a:=z.natAbs) hb;rw[<-ez]at d1 d2;rw[decide_eq_true hneg]at eb ⊢;by_cases h0:z.natAbs%b=0
  .rw[if_pos h0]at d1 d2;rw[h0,Cq];simp[eb];refine D8 (l:=[S (AI (z.natAbs/b)),S [48]]) (h:=[]) (fun q=>by simp) ?_;simp[eb];refine cd (Fx true (n:=z.natAbs/b) aa) ?_;simp;have j0:=Fx false (n:=0) (by grind);rw[Cq]at j0;refine cd j0 ?_;refine KU ?_ ?_
   .rw[d1];rfl
   .rw[d2];rfl
  .rw[if_neg h0]at d1 d2;have h48:¬AI (z.natAbs%b)=[48]:=fun h=>h0 (Fa.1 h)
   have ad:=Pv (a:=z.natAbs/b) (b:=1) aa (by simp[Me]);rw[show AI 1=[49] by decide+kernel]at ad;simp[eb,h48];refine AN ?_;simp[h48];refine cd ad ?_;simp;refine cd (Nh (a:=b) (b:=z.natAbs%b) aa aa) ?_;simp[eb];have hq1:ndg (z.natAbs/b+1)<=900000+1:=JA aa (by simp[Me])
   refine cd (Fx true (n:=z.natAbs/b+1) aa) ?_;simp;refine cd (Fx false (n:=b-z.natAbs%b) (Yx (B3 (Nat.sub_le ..)) aa)) ?_;refine KU ?_ ?_
   .rw[d1];rfl
   .rw[d2];rfl
 .rw[decide_eq_false hneg]at eb ⊢;simp[eb];refine D8 (l:=[S (AI (z.natAbs/b)),S (AI (z.natAbs%b))]) (h:=[]) (fun q=>by simp) ?_;simp[eb];refine cd (Fx false (n:=z.natAbs/b) aa) ?_;simp;refine cd (Fx false (n:=z.natAbs%b) aa) ?_;have ez:z=(z.natAbs:Int):=aa;refine KU ?_ ?_
  .rw[ez,<-Int.natCast_ediv];rfl
  .rw[ez,<-Int.natCast_emod];rfl
theorem OA(hb:0<b)(hz:ndg z.natAbs<900000)(hbd:ndg b<900000):CP Y F.Bt [S (itoa z),S (AI b)] (.tup [S (itoa (z/b)),S (itoa (z%b)),I 0]):=by
 refine Oy ?_;have l1:=Iq z 18 AF;have l2:=UL b 18 AF;have tl:=ac1 hb hz hbd;have h48:¬AI b=[48]:=fun h=>by grind[Fa]
 simp[Bt,h48];refine cd l1 ?_;by_cases h1:sdg z<=18
 .rw[if_pos h1];by_cases h2:ndg b<=18
  .rw[if_pos h2]at l2;simp;refine AN ?_;simp;refine cd l2 ?_;have b1:=KJ h1;have b2:b<10^18:=Zv (BI b) (Zc AF h2);simp only[Nat.reducePow]at b1 b2;have hbz:¬(b:Int)=0:=aa;obtain⟨n,hn⟩:=nmQ (z.natAbs);rw[<-hn]at b1;have hq:n/b<=n:=Yk ..;have hr:n%b<b:=Yt _ hb;by_cases hneg:z<0
   .have ez:z = -(n:Int):=aa;obtain⟨d1,d2⟩:=Pm (a:=n) hb;rw[<-ez]at d1 d2;have q1:z.tdiv (b:Int) = -((n/b:Nat):Int):=by rw[ez,Int.neg_tdiv,Y1 aa,<-Int.natCast_ediv]
    have q2:z.tmod (b:Int) = -((n%b:Nat):Int):=by rw[ez,Int.neg_tmod,Y3 aa,<-Int.natCast_emod]
    obtain⟨q,hqq⟩:=nmQ (n/b);obtain⟨r,hrr⟩:=nmQ (n%b);rw[<-hqq]at q1 d1 hq;rw[<-hrr]at q2 d1 d2 hr;by_cases h0:r=0
    .rw[if_pos h0]at d1 d2;rw[h0]at q2;simp(disch:=try exact zN)[q1,q2];refine D8 (l:=[I (-(q:Int)),I 0]) (h:=[]) (fun q=>by simp) ?_;simp;refine cd (Ip (z:=-(q:Int)) aa aa) ?_;simp;refine cd (Ip (z:=0) aa aa) ?_;refine KU ?_ ?_
     .rw[d1]
     .rw[d2]
    .rw[if_neg h0]at d1 d2;have r0:¬(-(r:Int))=0:=aa;have r1:(-(r:Int))<0:=aa;have r2:¬(b:Int)<0:=aa;have eb:∀x y:Bool,biB .neq (B x) (B y)=some (B (x !=y)):=fun _ _=>rfl
     simp(disch:=try exact zN)[q1,q2,r0,r1,r2,eb];refine D8 (l:=[I (-(q:Int)-1),I (-(r:Int)+b)]) (h:=[]) (fun q=>by simp(disch:=try exact zN)[r0,r1,r2]) ?_;simp;refine cd (Ip (z:=-(q:Int)-1) aa aa) ?_;simp;refine cd (Ip (z:=-(r:Int)+b) aa aa) ?_
     grind[KU]
   .have ez:z=(n:Int):=aa;have q1:z.tdiv (b:Int)=((n/b:Nat):Int):=by rw[ez,Y1 aa,<-Int.natCast_ediv]
    have q2:z.tmod (b:Int)=((n%b:Nat):Int):=by rw[ez,Y3 aa,<-Int.natCast_emod]
    have d1:z/(b:Int)=((n/b:Nat):Int):=by rw[ez,<-Int.natCast_ediv]
    have d2:z%(b:Int)=((n%b:Nat):Int):=by rw[ez,<-Int.natCast_emod]
    obtain⟨q,hqq⟩:=nmQ (n/b);obtain⟨r,hrr⟩:=nmQ (n%b);rw[<-hqq]at q1 d1 hq;rw[<-hrr]at q2 d2 hr;have r1:¬((r:Int))<0:=aa;have r2:¬(b:Int)<0:=aa;have eb:∀x y:Bool,biB .neq (B x) (B y)=some (B (x !=y)):=fun _ _=>rfl
    have fin:∀h:Hp,cal (CX Y).p h (V.fn F.Cv [] []) [I q] fun v45 h=>
      cal (CX Y).p h (V.fn F.Cv [] []) [I r] fun v46 h=>out (V.tup [S (itoa (z/(b:Int))),S (itoa (z%(b:Int))),I 0]) (V.tup [v45,v46,V.d (D.int IntKind.i64 0)]) h:=by
     intro h;simp;refine cd (Ip (z:=q) aa aa) ?_;simp;refine cd (Ip (z:=r) aa aa) ?_;refine KU ?_ ?_
     .rw[d1]
     .rw[d2]
    by_cases h0:r=0
    .rw[h0]at q2 fin;simp(disch:=try exact zN)[q1,q2];refine D8 (l:=[I q,I 0]) (h:=[]) (fun q=>by simp) ?_;exact fin []
    .have r0:¬(r:Int)=0:=aa;simp(disch:=try exact zN)[q1,q2,r0,r1,r2,eb];refine D8 (l:=[I q,I r]) (h:=[]) (fun q=>by simp[r0,r1,r2]) ?_;exact fin []
  .rw[if_neg h2]at l2;simp;refine AN ?_;simp;refine cd l2 ?_;simp;trivial
 .rw[if_neg h1];simp;refine AN ?_;simp;trivial
theorem XT(ha0:0<a)(hb0:0<b)(ha:ndg a<400000)(hb:ndg b<400000):CP Y F.Gu [S (AI a),S (AI b)] (S (AI (Nat.lcm a b))):=by
 refine P9 ?_;have h1:¬AI a=[48]:=fun h=>by have:=Fa.1 h;omega
 have h2:¬AI b=[48]:=fun h=>by have:=Fa.1 h;omega
 have hg:0<Nat.gcd a b:=Nat.gcd_pos_of_pos_left _ ha0;have hgl:Nat.gcd a b<=a:=Nat.gcd_le_left _ ha0;have hq:ndg (a/Nat.gcd a b)<=ndg a:=B3 (Yk ..);simp[Gu,h1,h2];refine cd (VY aa aa) ?_;simp;refine cd (Na (a:=a) (b:=Nat.gcd a b) hg aa (by have:=B3 hgl;omega)) ?_;simp
 refine cd (QM (a:=a/Nat.gcd a b) (b:=b) aa aa) ?_;refine Cu ?_;congr 1;rw[Nat.lcm,Y5,<-Nat.mul_div_assoc _ (Wy a b),Y5]
theorem Wm(n:Nat):CP Y F.Db [S (AI n)] (S (AI n)):=by
 have:=Ou (n:Int)
 rwa [E5,Int.natAbs_natCast]at this
theorem abZ(ha0:0<a)(hb0:0<b)(ha:ndg a<400000)(hb:ndg b<400000):CP Y F.GX [S (AI a),S (AI b)] (S (AI (Nat.lcm a b))):=by refine Sf ?_;simp[GX];refine cd (Wm a) ?_;simp;refine cd (Wm b) ?_;simp;refine cd (XT ha0 hb0 ha hb) ?_;exact Cu rfl
theorem XA(h:z.natAbs<9223372036854775808):CP Y F.bV [S (itoa z),I 10,I 64] (.tup [I z,.d (.pl .nilIface)]):=by
 have key:∀n:Nat,n<9223372036854775808->(AI n)≠[]∧(AI n).all dP=true∧(AI n).length<=1000∧de 0 (AI n)=n:=by
  intro n hn;have hd:=B5 n;have hc:=Iw n
  have hl:(AI n).length<=1000:=by
   have:=jK (n:=n) (d:=19) aa AF;rw[AI,A0];omega
  simp only[Hn,Z7]at hc
  have hall:(AI n).all dP=true:=by
   rw[<-hc.1.2];congr 1;funext c;exact digit_eq c
  exact⟨Kt n,hall,hl,by rw[KZ,hd]⟩
 have ho:Y.X.orc F.bV [.string ⟨⟨itoa z⟩⟩,.int .i64 10,.int .i64 64]=some (.tuple #[.int .i64 z,.nilIface]):=by
  have e:∀a,Y.X.orc F.bV a=tA a:=fun a=>rfl
  rw[e];obtain⟨k1,k2,k3,k4⟩:=key _ h;unfold tA;simp only;rw[if_pos ⟨trivial,trivial⟩];by_cases hz:z<0
  .have e1:itoa z=45::AI z.natAbs:=by unfold itoa;rw[if_pos hz]
   rw[e1];simp only;rw[if_pos ⟨k1,k2,k3,by rw[k4];exact h⟩,k4,show(-((z.natAbs:Nat):Int))=z by omega]
  .have e1:itoa z=AI z.natAbs:=by unfold itoa;rw[if_neg hz]
   rw[e1];have hh:=Ir z.natAbs;have ez:((z.natAbs:Nat):Int)=z:=aa;generalize AI z.natAbs=L at *
   have fin:(if L≠[]∧L.all dP=true∧L.length<=1000∧de 0 L<9223372036854775808 then some (Value.tuple #[.int .i64 (de 0 L),.nilIface])else none)=some (Value.tuple #[.int .i64 z,.nilIface]):=by
    rw[if_pos ⟨k1,k2,k3,by rw[k4];exact h⟩,k4,ez]
   split
   .rename_i l hl;exact absurd rfl hh
   .exact fin
 exact CP.orc ho (by intro x hx;simp only[Zs,Ye,or_false]at hx;rcases hx with rfl|rfl|rfl<;>rfl) rfl
theorem WM(h:z.natAbs<9223372036854775808):CP Y F.Gm [S (itoa z)] (.tup [I z,B true]):=by refine PM ?_;simp[Gm];refine cd (XA h) ?_;simp[Rt];exact AO rfl rfl
def RdN(s:Nat)(h:Hp)(v:V)(d:LnQ):Prop:=∀h':Hp,h'.length=h.length->(∀j,j≠s->h'[j]?=h[j]?)->RdP h' v d∧∃h2,cX h' v=some (lst u6 d,h2)
theorem RdN.now{v:V}{d:LnQ}(r:RdN s h v d):RdP h v d:=(r h rfl fun _ _=>rfl).1
theorem RdN.step{h2:Hp}{v:V}{d:LnQ}(r:RdN s h v d)(hl:h2.length=h.length)(hs:∀j,j≠s->h2[j]?=h[j]?):RdN s h2 v d:=
 fun h' h1 h3=>r h' (h1.trans hl) fun j hj=>(h3 j hj).trans (hs j hj)
theorem RdN.new{s t e N m:Nat}{h:Hp}(hst:s≠t)(hg:h[t]?=some (e,.data 1 ((iq N m).map u6) true false))(hm:m<Z^N):RdN s h (.ref t e 0 (dig Z m).length N N) (dig Z m):=fun h' hl ho=>by
 have:=Ov (h:=h') (cap:=N) ((ho t (Ne.symm hst)).trans hg) (ip ..).symm (qS hm);rw[jl hm]at this;have sn:=tX (h:=h') ((ho t (Ne.symm hst)).trans hg) (ip ..).symm (len:=(dig Z m).length) (cap:=N) (qS hm) (Z5 _);rw[jl hm]at sn;exact⟨this,_,sn⟩
theorem and_one{n:Int}(h0:0<=n)(h1:n<9223372036854775808):biI .and (I n) (I 1)=some (I (n%2)):=by
 obtain⟨m,rfl⟩:∃m:Nat,n=m:=⟨n.toNat,aa⟩
 have hb:(BitVec.ofInt 64 (m:Int)&&&BitVec.ofInt 64 1).toNat=m%2:=by
  rw[BitVec.toNat_and]
  have e1:(BitVec.ofInt 64 (m:Int)).toNat=m:=by
   rw[BitVec.toNat_ofInt];omega
  have e2:(BitVec.ofInt 64 (1:Int)).toNat=1:=AF;rw[e1,e2,Nat.and_one_is_mod]
 simp only[biI,bf,ne_eq,not_true_eq_false,if_false,Fi,bv]
 show some (V.d (.int .i64 (IntKind.wrap .i64 ((BitVec.ofInt 64 (m:Int)&&&BitVec.ofInt 64 1).toNat:Int))))=_
 rw[hb,vd aa aa];rfl
theorem aal(k:KL):∀(n A Bv:Nat)(o p:V)(h:Hp)(R:Nat),A*Bv^n=R->0<A->0<Bv->R<Z^2000->n<100000->h.length=3->NV h->RdN 2 h o (dig Z A)->RdN 1 h p (dig Z Bv) ->
  (∀o' h' h2,h'.length=3->cX h' o'=some (lst u6 (dig Z R),h2)->NV h'->k (.exit 1) [o'] h')->∀h0:Hp,h0.length=3->lp (EN (CX Y)) [] h0 [o,p,I n] h k:=by
 intro n
 induction n using Nat.strongRecOn with
 | ind n ih=>
  intro A Bv o p h R hR hA hB hlim hn hlen hnv ro rp hk h0 hl0;refine AJ ?_;by_cases hz:n=0
  .subst hz;simp[EN];rw[Nat.pow_zero,X9]at hR;subst hR;obtain⟨h2,hs2⟩:=(ro h rfl fun _ _=>rfl).2;exact hk o h h2 hlen hs2 hnv
  have hpos:(n:Int)>0:=aa
  have hBR:Bv<=R:=by
   rw[<-hR];exact Zq (Nat.le_of_eq (Nat.pow_one Bv).symm) (Zq (Zc hB aa) (Nat.le_mul_of_pos_left _ hA))
  have hAR:A<=R:=by rw[<-hR];exact Zj _ (Xy hB)
  have dA:(dig Z A).length<=2000:=qS aa;have dB:(dig Z Bv).length<=2000:=qS aa;have and1:=and_one (n:=(n:Int)) aa aa;have e2:((n:Int)/2^(1:Int).toNat)=((n/2:Nat):Int):=mR
  have sh:biI .shr (I n) (.d (.int .u64 1))=some (I (n/2:Nat)):=by
   rw[xC aa aa,e2]
  have hn2:n/2<n:=aa
  -- what a product gives
  have times:∀(h:Hp)(v w:V)(a b s:Nat),h.length=3->NV h->s<3->RdP h v (dig Z a)->RdP h w (dig Z b)->(dig Z a).length<=2000->(dig Z b).length<=2000->∀q:kkQ,
    (∀o' h',h'.length=3->NV h'->(∀j,j≠s->h'[j]?=h[j]?)->(∀t,t≠s->RdN t h' o' (dig Z (a*b)))->q o' h')->cai (CX Y).i h (V.fn F.Ba [] []) [v,w] s q:=by
   intro h v w a b s hl hv hs r1 r2 d1 d2 q hq;obtain⟨N,hN⟩:=nmQ ((dig Z a).length+(dig Z b).length);have tk:=ML (h:=h) (hv.all _) r1 (jq ko a) r2 (jq ko b) aa aa hN;rw[mT ko,mT ko]at tk;have hs3:s<h.length:=aa;have hm:a*b<Z^N:=by rw[hN,Yh];exact Yd (Kr a) (Kr b)
   refine CU (e:=h[s].1) (b:=h[s].2) tk (List.getElem?_eq_getElem hs3) ?_;rw[List.length_map,ip];have gs:(h.set s (h[s].1+1,.data 1 ((iq N (a*b)).map u6) true false))[s]?=some (h[s].1+1,.data 1 ((iq N (a*b)).map u6) true false):=by simp[hs3]
   have os:∀j,j≠s->(h.set s (h[s].1+1,.data 1 ((iq N (a*b)).map u6) true false))[j]?=h[j]?:=fun j hj=>by rw[List.getElem?_set_ne (Ne.symm hj)]
   exact hq _ _ (by simp[hl]) (hv.upd gs os) os (fun t ht=>RdN.new ht gs hm)
  have fin:∀(A' B':Nat)(o' p':V)(h':Hp),A'*B'^(n/2)=R->0<A'->0<B'->h'.length=3->NV h'->RdN 2 h' o' (dig Z A')->RdN 1 h' p' (dig Z B')->rl (lp (EN (CX Y)) [] h0 [o',p',I ((n:Int)/2)] h') k .mk:=by
   intro A' B' o' p' h' e1 e2 e3 e4 e5 e6 e7;rw[show((n:Int)/2)=((n/2:Nat):Int) by omega];exact ih (n/2) hn2 A' B' o' p' h' R e1 e2 e3 hlim aa e4 e5 e6 e7 hk h0 hl0
  have hdm:=X4 n 2;simp(disch:=try exact zN)[EN,hpos];refine AN ?_;simp[and1];by_cases hod:(n:Int)%2=1
  .have hod':n%2=1:=aa
   have eR:A*Bv*(Bv*Bv)^(n/2)=R:=by
    rw[<-hR]
    conv=>rhs;rw[<-hdm,hod',Yh,Nat.pow_mul,Nat.pow_one]
    rw[Nat.pow_two,Nat.mul_assoc,Y5 Bv]
   refine AN ?_;simp[hod];refine EH (times h o p A Bv 1 hlen hnv aa ro.now rp.now dA dB _ fun o' h' l1 v1 s1 r1=>?_);have rp1:=rp.step (l1.trans hlen.symm) s1;have ro1:=r1 2 aa;simp;refine AN ?_;by_cases h1:(n:Int)>1
   .simp[h1];refine EH (times h' p p Bv Bv 2 l1 v1 aa rp1.now rp1.now dB dB _ fun p' h'' l2 v2 s2 r2=>?_);have ro2:=ro1.step (l2.trans l1.symm) s2;simp(disch:=try exact zN)[sh];exact fin _ _ o' p' h'' eR (Yi hA hB) (Yi hB hB) l2 v2 ro2 (r2 1 aa)
   .have hn1:n=1:=aa;simp(disch:=try exact zN)[h1,sh];refine fin (A*Bv) Bv o' p h' ?_ (Yi hA hB) hB l1 v1 ro1 rp1;rw[<-eR];subst hn1;simp
  .have hod':n%2=0:=aa
   have eR:A*(Bv*Bv)^(n/2)=R:=by
    rw[<-hR]
    conv=>rhs;rw[<-hdm,hod',Nat.add_zero,Nat.pow_mul]
    rw[Nat.pow_two]
   refine AN ?_;simp[hod];refine AN ?_;have h1:(n:Int)>1:=aa;simp[h1];refine EH (times h p p Bv Bv 2 hlen hnv aa rp.now rp.now dB dB _ fun p' h'' l2 v2 s2 r2=>?_);have ro2:=ro.step (l2.trans hlen.symm) s2;simp(disch:=try exact zN)[sh];exact fin _ _ o p' h'' eR hA (Yi hB hB) l2 v2 ro2 (r2 1 aa)
theorem VU(h:n<18446744073709551616):CP Y F.Eu [.d (.int .u64 n)] (I (ia n)):=by refine NO ?_;simp[Eu];refine cd (O3 h) ?_;simp<;>exact A3 rfl
theorem KW:AI 2=[50]:=dQ
theorem Dh:AI 1=[49]:=dQ
theorem abF:CP Y F.FN [S [50]] (I 2):=by refine Pr ?_;have h:=MP (n:=2) aa;rw[KW]at h;have h2:=O3 (n:=2) aa;rw[show ia 2=2 by rfl]at h2;simp[FN];refine cd h ?_;simp;refine cd h2 ?_;simp
theorem YK{K:Nat}(h:n/3+1<=K):2^n<10^K:=by
 have h1:2^n=8^(n/3)*2^(n%3):=by
  rw[show(8:Nat)=2^3 from rfl,<-Nat.pow_mul,<-Yh,X4]
 have h2:8^(n/3)<=10^(n/3):=Nat.pow_le_pow_left AF _
 have h3:2^(n%3)<=4:=by
  have:n%3<3:=Yt _ AF;exact Zq (Zc AF (show n%3<=2 by omega)) AF
 have h4:10^(n/3+1)<=10^K:=Zc AF h;have h5:=Yw h2 h3
 grind
theorem acA{K:Nat}(h:n/3+1<=K)(hK:0<K):ndg (2^n)<=K:=jK (YK h) hK
theorem afb{K:Nat}(h:n/3+1<=K):2^n<Z^K:=Zv (YK h) (Nat.pow_le_pow_left AF _)
theorem Oe(hn:n<=4000):2^n<Z^2000∧ndg (2^n)<=2000:=
 ⟨afb (K:=2000) aa,acA (K:=2000) aa aa⟩
theorem XS(hn:n<=4000):CP Y F.DT [S [50],I n] (.tup [S (AI (2^n)),I 0]):=by
 refine NW ?_;by_cases h0:n=0
 .subst h0;rw[Nat.pow_zero,Dh];simp[DT];simp[AO]
 have g1:¬(n:Int)=0:=aa;have g2:¬(n:Int)<0:=aa;have g3:¬(n:Int)>66439:=aa;have n1:¬([50]:LuQ)=[49]:=AF;have n2:¬([50]:LuQ)=[48]:=AF;have ct:=IY (h:=[nnQ,nnQ,nnQ]) rfl (n:=2) (cap:=1) dQ dQ;rw[KW]at ct;obtain⟨p1,p2⟩:=Oe hn
 have hli:∀h:Hp,BS 1 [D.int .u64 0] [(0,V.d (D.int .u64 1))] h=some ([u6 1],h):=fun h=>by rfl
 simp(disch:=try exact zN)[DT,g1,g2,n1,n2];refine cd abF ?_;simp[g3,hli];refine EH (CU (e:=0) (b:=.none) ct rfl ?_);rw[List.length_map,ip];simp
 have nv:NV [(1,.data 1 ((iq 1 2).map u6) true false),nnQ,nnQ]:=by
  intro j x hj b';rcases W5.2 ⟨j,hj⟩with hm;simp only[Zs,Ye,or_false]at hm;rcases hm with rfl|rfl|rfl<;>rfl
 refine lo (aal _ n 1 2 (lst u6 [1]) _ [(1,.data 1 ((iq 1 2).map u6) true false),nnQ,nnQ] (2^n) (by rw[Xh]) AF AF p1 aa rfl nv ?_ ?_ (fun o' h' h2 hl hr hv=>?_) _ rfl)
 .intro h' _ _;rw[show dig Z 1=[1] by rfl];simp[Wn]
 .exact RdN.new (s:=1) (t:=0) AF rfl AF
 .have hl1:¬(ndg (2^n):Int)>20000:=aa;have lt:=E9 (2^n);have tx:=KH (n:=2^n) (Yx (qS p1) AF);generalize 2^n=m at *;simp;refine cdz (by simp only[AT,hr];rfl) tx ?_;rw[show cj (S (AI m))=true from rfl,if_pos rfl];simp[lt,hl1];simp[AO]
theorem MV(hn:n<=4000):CP Y F.EP [S [50],I n] (.tup [S (AI (2^n)),I 0]):=by refine PN ?_;have sp:=HU 2;rw[KW]at sp;have g2:¬(n:Int)<0:=aa;have g3:¬(n:Int)>4000:=aa;obtain⟨p1,p2⟩:=Oe hn;have q:((4000:Int).tdiv 1)=4000:=AF;simp[EP,g2];refine cd sp ?_;simp[g3,q];refine cd (XS hn) ?_;simp;refine cd (aa1 _) ?_;simp[AO]
def dgF(unit two:Nat):Nat->Nat->Nat->Nat->Option Nat
 |0,_,_,out=>some out
 | r+1,low,high,out=>
  cond (Nat.ble two (low*low/unit)) (dgF unit two r (low*low/unit/2) ((high*high/unit+1)/2+1) (out+out+1))
   (cond (Nat.ble two (high*high/unit+1)) none (dgF unit two r (low*low/unit) (high*high/unit+1) (out+out)))
def jT(p n more:Nat):Option Nat:=dgF (2^more) (2^more+2^more) n (p*2^(more-(ia p-1))) (p*2^(more-(ia p-1))) (ia p-1)
def dgV:Option Nat->V
 |some v=>.tup [S (AI v),B true]
 |none=>.tup [S [],B false]
theorem I8(ha:ndg a<999999)(hb:ndg b<999999):CP Y F.BL [S (AI a),S (AI b)] (S (AI (a+b))):=by have:=LM (z:=(a:Int)) (w:=(b:Int)) (by trivial) (by trivial);trivial
theorem J4(ha:ndg a<400000)(hb:ndg b<400000):CP Y F.A7 [S (AI a),S (AI b)] (S (AI (a*b))):=by have:=J3 (z:=(a:Int)) (w:=(b:Int)) (by trivial) (by trivial);trivial
theorem I7(h0:0<b)(ha:ndg a<900000)(hb:ndg b<900000):CP Y F.Bt [S (AI a),S (AI b)] (.tup [S (AI (a/b)),S (AI (a%b)),I 0]):=by grind[OA,E5]
theorem IJ:ndg (a*b)<=ndg a+ndg b:=by
 have h3:a*b<10^(ndg a+ndg b):=by rw[Yh];exact Yd (BI a) (BI b)
 exact jK h3 (by grind[se])
theorem abo:decide (0<=Big.cmp a b)=Nat.ble b a:=by grind[Nat.ble_eq,Pz,cmp_eq,PC]
theorem Te(h:ndg n<=k):ndg (n+n+1)<=k+1:=by have h1:n<10^k:=Zv (BI n) (Zc AF h);exact jK aa aa
theorem NE{unit two N W:Nat}(hu:2<=unit)(htwo:two=unit+unit)(hW:ndg two<=W)(hW2:W<100000)(hN:N<100000)(k:KL):∀(r i low high out:Nat),i+r=N->low<=high->high<two->ndg out<=W+i ->
  (∀v,dgF unit two r low high out=some v->ndg v<=W+N->k (.exit 0) [S (AI v)] [])->(dgF unit two r low high out=none->k .ret [S [],B false] []) ->
  lp (GA (CX Y) (S (AI unit)) (S (AI two)) (I N)) [] [] [S (AI low),S (AI high),S (AI out),I i] [] k
 | 0,i,low,high,out,hi,hlh,hht,ho,h0,h1=>by
  have hiN:¬(i:Int)<(N:Int):=aa;refine AJ ?_;simp[GA,hiN];exact h0 out rfl aa
 | r+1,i,low,high,out,hi,hlh,hht,ho,h0,h1=>by
  have hiN:(i:Int)<(N:Int):=aa;have ih:=NE hu htwo hW hW2 hN k r (i+1);have u1:ndg unit<=W:=Zq (B3 aa) hW;have u2:ndg low<=W:=Zq (B3 aa) hW;have u3:ndg high<=W:=Zq (B3 aa) hW;have m1:=J4 (a:=low) (b:=low) aa aa;have m2:=J4 (a:=high) (b:=high) aa aa
  have w1:ndg (low*low)<=W+W:=Zq IJ aa;have w2:ndg (high*high)<=W+W:=Zq IJ aa;have d1:=I7 (a:=low*low) (b:=unit) aa aa aa;have d2:=I7 (a:=high*high) (b:=unit) aa aa aa;have lowle:low*low/unit<=high*high/unit:=Nat.div_le_div_right (Yw hlh hlh)
  have hi4:high*high/unit+4<=4*unit:=by
   have e1:high*high<=(2*unit-1)*(2*unit-1):=Yw aa aa
   have e2:(2*unit-1)*(2*unit-1)+4*unit=4*unit*unit+1:=by
    obtain⟨x,hx⟩:∃x,unit=x+1:=⟨unit-1,aa⟩;subst hx;rw[show 2*(x+1)-1=2*x+1 by omega];simp only[Nat.add_mul,Y4,X9,Xh,Nat.mul_assoc,Yq x 2];omega
   have e3:high*high<(4*unit-3)*unit:=by
    rw[Nat.sub_mul];have:4*unit*unit≥3*unit:=Zw _ aa;omega
   have:=(Xn aa).2 e3;omega
  have eqF:dgF unit two (r+1) low high out=cond (Nat.ble two (low*low/unit)) (dgF unit two r (low*low/unit/2) ((high*high/unit+1)/2+1) (out+out+1))
   (cond (Nat.ble two (high*high/unit+1)) none (dgF unit two r (low*low/unit) (high*high/unit+1) (out+out))):=rfl
  rw[eqF]at h0 h1;generalize low*low/unit=L1 at *;generalize high*high/unit=H0 at *;have t2:ndg (two+two)<=W+1:=JA hW hW;have v1:ndg L1<=W+1:=Zq (B3 aa) t2;have v2:ndg H0<=W+1:=Zq (B3 aa) t2;have v3:ndg (H0+1)<=W+1:=Zq (B3 aa) t2;have a1:=I8 (a:=H0) (b:=1) aa (by simp[Me]);rw[Dh]at a1
  have a2:=I8 (a:=out) (b:=out) aa aa;have vo:ndg (out+out)<=W+i+1:=JA ho ho;have a3:=I8 (a:=out+out) (b:=1) aa (by simp[Me]);rw[Dh]at a3;have c1:=Sm (a:=L1) (b:=two) aa aa;have c2:=Sm (a:=H0+1) (b:=two) aa aa;have g1:=abo (a:=L1) (b:=two);have g2:=abo (a:=H0+1) (b:=two)
  have d3:=I7 (a:=L1) (b:=2) aa aa (by rw[show ndg 2=1 by decide+kernel];omega);have d4:=I7 (a:=H0+1) (b:=2) aa aa (by rw[show ndg 2=1 by decide+kernel];omega);rw[KW]at d3 d4;have v4:ndg ((H0+1)/2)<=W+1:=Zq (B3 aa) t2;have a4:=I8 (a:=(H0+1)/2) (b:=1) aa (by simp[Me]);rw[Dh]at a4
  generalize Big.cmp L1 two=C1 at *;generalize Big.cmp (H0+1) two=C2 at *;refine AJ ?_;simp[GA,hiN];refine AN ?_;simp;refine cd m1 ?_;simp;refine cd d1 ?_;simp;refine cd m2 ?_;simp;refine cd d2 ?_;simp;refine cd a1 ?_;simp;refine cd a2 ?_;simp;refine AN ?_;simp;refine cd c1 ?_;simp;refine AN ?_;cases q1:Nat.ble two L1 with
  | true=>
   rw[q1]at g1 h0 h1;simp only[cond_true]at h0 h1;have g1':0<=C1:=by simpa using g1
   have b1:two<=L1:=Nat.le_of_ble_eq_true q1;simp[g1'];refine cd a3 ?_;simp;refine cd d3 ?_;simp;refine cd d4 ?_;simp;refine cd a4 ?_;simp(disch:=try exact zN);have:=ih (L1/2) ((H0+1)/2+1) (out+out+1) aa aa aa (Te ho) h0 h1;trivial
  | false=>
   rw[q1]at g1 h0 h1;simp only[cond_false]at h0 h1;have g1':¬0<=C1:=by simpa using g1
   simp[g1'];refine cd c2 ?_;simp;cases q2:Nat.ble two (H0+1)with
   | true=>
    rw[q2]at g2 h1;have g2':0<=C2:=by simpa using g2
    simp[g2']
    grind
   | false=>
    rw[q2]at g2 h0 h1;simp only[cond_false]at h0 h1;have g2':¬0<=C2:=by simpa using g2
    have b2:¬two<=H0+1:=fun h=>by simp_all[Nat.ble_eq_true_of_le]
    simp(disch:=try exact zN)[g2'];have:=ih L1 (H0+1) (out+out) aa aa aa aa h0 h1;trivial
theorem XB(v:Nat)(h:Hp):out (dgV (some v)) (.tup [S (AI v),B true]) h:=AO rfl rfl
theorem XC(h:Hp):out (dgV none) (.tup [S [],B false]) h:=AO rfl rfl
theorem UT{p more:Nat}(hp:2<=p)(hp2:p<1000000)(hm1:30<=more)(hm:more<=4000)(hn:n<=4000):CP Y F.size_digits [I p,I n,I more] (dgV (jT p n more)):=by
 refine PR ?_;obtain⟨hk0,hpk,hk1⟩:=HK (n:=p) aa
 have hk2:ia p<=20:=by
  rcases Zx 20 (ia p)with h|h
  .have:2^20<=2^(ia p-1):=Zc AF aa;omega
  .exact h
 obtain⟨kk,hkk⟩:=nmQ (ia p-1);obtain⟨mk,hmk⟩:=nmQ (more-kk);have e1:((ia p:Nat):Int)-1=(kk:Int):=aa;have e2:(more:Int)-(kk:Int)=(mk:Int):=aa;have hcv:IntKind.wrap .u64 (p:Int)=(p:Int):=tO aa aa;have lb:=VU (n:=p) aa;have pw:=MV hm;have pw2:=MV (n:=mk) aa;have b1:=(Oe hm).2
 have b2:=(Oe (n:=mk) aa).2;have ad:=I8 (a:=2^more) (b:=2^more) aa aa;have op:=UF (n:=p) aa;have ok:=UF (n:=kk) aa;have np:ndg p<=6:=jK aa AF;have nk:ndg kk<=2:=jK aa AF;have ml:=J4 (a:=p) (b:=2^mk) aa aa;have b3:ndg (2^more+2^more)<=2000+1:=JA b1 b1
 have hlt:p*2^mk<2^more+2^more:=by
  have h1:p*2^mk<2^ia p*2^mk:=(Nat.mul_lt_mul_right (Xy AF)).2 hpk;rw[<-Yh,show ia p+mk=more+1 by omega,Nat.pow_succ]at h1;omega
 have hu:2<=2^more:=by
  have:2^1<=2^more:=Zc AF aa;omega
 have eF:jT p n more=dgF (2^more) (2^more+2^more) n (p*2^mk) (p*2^mk) kk:=by
  unfold jT;rw[<-hkk,<-hmk]
 rw[eF];generalize 2^more=unit at *;generalize 2^mk=pm at *;generalize p*pm=low at *;simp[size_digits,hcv];refine cd lb ?_;simp(disch:=try exact zN)[e1];refine cd pw ?_;simp;refine cd ad ?_;simp(disch:=try exact zN)[e2];refine cd pw2 ?_;simp;refine cd op ?_;simp;refine cd ml ?_;simp;refine cd ok ?_;simp
 refine lo (NE hu rfl (W:=2001) b3 aa (N:=n) aa _ n 0 low low kk aa (Z5 _) hlt aa (fun v hv _=>?_) (fun hv=>?_))
 .rw[hv];simp;exact XB v _
 .rw[hv];simp;exact XC _
def qd(p n:Nat):Option Nat:=if p=2 then some (2^n)else jT p n (n+64)
theorem aeH{p v:Nat}(hp:2<=p)(hp2:p<1000000)(hn:n<=3900)(hv:qd p n=some v):CP Y F.Ii [I p,I n] (S (AI v)):=by
 refine Uq ?_;unfold qd at hv;by_cases h2:p=2
 .rw[if_pos h2]at hv;simp only[Z9]at hv;have e:((p:Int)=2):=aa;have pw:=MV (n:=n) aa;rw[hv]at pw;simp[Ii,e];refine cd pw ?_;simp;exact Cu rfl
 .rw[if_neg h2]at hv;have e:¬((p:Int)=2):=aa;have dg:=UT (p:=p) (n:=n) (more:=n+64) hp hp2 aa aa aa;rw[hv]at dg;obtain⟨m,hm⟩:=nmQ (n+64);rw[<-hm]at dg;have e3:(n:Int)+64=(m:Int):=aa;simp(disch:=try exact zN)[Ii,e,e3];refine lo (AJ ?_);simp[Ny];refine cd dg ?_;simp[dgV];exact Cu rfl
abbrev Q:=Int×Nat
def okQ(x:Q):Prop:=0<x.2∧Nat.gcd x.1.natAbs x.2=1
def qT(x:Q):LwQ:=[S (itoa x.1),S (AI x.2)]
def qc(n:Int)(d:Nat):Q:=(n/(Nat.gcd n.natAbs d:Nat),d/Nat.gcd n.natAbs d)
def zj(a b:Q):Q:=qc (a.1*b.2+b.1*a.2) (a.2*b.2)
def wm(a b:Q):Q:=qc (a.1*b.1) (a.2*b.2)
def zt(n d:Int):Q:=if d<0 then qc (-n) d.natAbs else qc n d.natAbs
def afP(a b:Q):Q:=zt (a.1*b.2) (a.2*b.1)
theorem abr{n:Int}(h:g∣n.natAbs):(g:Int)∣n:=Int.natAbs_dvd_natAbs.1 (by simpa using h)
theorem Oj(n:Int)(hd:0<d):okQ (qc n d):=by
 have hg:0<Nat.gcd n.natAbs d:=Xg _ hd;obtain⟨g,hgg⟩:=nmQ (Nat.gcd n.natAbs d);have h1:g∣n.natAbs:=by rw[hgg];exact Wy ..
 have h2:g∣d:=by rw[hgg];exact Nat.gcd_dvd_right ..
 unfold qc;rw[<-hgg]at hg ⊢;refine⟨Wo (Xf hd h2) hg,?_⟩
 have e:(n/(g:Int)).natAbs=n.natAbs/g:=by
  rw[Int.natAbs_ediv_of_dvd (abr h1),Int.natAbs_natCast]
 simp only[e];rw[Nat.gcd_div h1 h2,<-hgg,Nat.div_self hg]
theorem aaO{n:Int}(h:Nat.gcd n.natAbs d=1):qc n d=(n,d):=by unfold qc;rw[h];simp
theorem VS(n:Int)(d:Nat):(qc n d).1.natAbs<=n.natAbs∧(qc n d).2<=d:=by
 obtain⟨g,hgg⟩:=nmQ (Nat.gcd n.natAbs d);have h1:g∣n.natAbs:=by rw[hgg];exact Wy ..
 unfold qc;rw[<-hgg];constructor
 .simp only;rw[Int.natAbs_ediv_of_dvd (abr h1),Int.natAbs_natCast];exact Yk ..
 .exact Yk ..
theorem acx(k:KL)(h:Hp)(h0:Hp)(hl:h.length=h0.length):∀(m:Nat)(a b:Int),b.natAbs<=m->a.natAbs<9223372036854775807->b.natAbs<9223372036854775807 ->
  (∀c:Int,c.natAbs=Nat.gcd a.natAbs b.natAbs->k (.exit 0) [I c] h)->lp (Fy (CX Y)) [] h0 [I a,I b] h k:=by
 intro m
 induction m with
 | zero=>
  intro a b hb ha hb2 hk;have hb0:b=0:=aa;subst hb0;refine AJ ?_;simp[Fy];exact hk a mR
 | succ m ih=>
  intro a b hb ha hb2 hk;refine AJ ?_;by_cases hb0:b=0
  .subst hb0;simp[Fy];exact hk a mR
  ·have hr:(a.tmod b).natAbs<b.natAbs:=by
    rw[Int.natAbs_tmod];exact Yt _ aa
   have e:Nat.gcd b.natAbs (a.tmod b).natAbs=Nat.gcd a.natAbs b.natAbs:=by
    rw[Int.natAbs_tmod,Wq,<-Nat.gcd_rec,Wq]
   simp[Fy,hb0,hl];exact ih b (a.tmod b) aa aa aa (fun c hc=>hk c (hc.trans e))
theorem EI{a b a' b':LuQ}(e1:a'=a)(e2:b'=b):out (.agg [S a,S b]) (.agg [S a',S b']) h:=by subst e1;subst e2;exact⟨h,by simp[cX,AT,norm]⟩
theorem V0{n:Int}(hd:0<d)(hn:n.natAbs<9223372036854775807)(hd2:d<9223372036854775807):CP Y F.DK [I n,I d] (.agg (qT (qc n d))):=by
 refine PV ?_;obtain⟨g,hgg⟩:=nmQ (Nat.gcd n.natAbs d);have hg:0<g:=by rw[hgg];exact Xg _ hd
 have h1:g∣n.natAbs:=by rw[hgg];exact Wy ..
 have h2:g∣d:=by rw[hgg];exact Nat.gcd_dvd_right ..
 have hgd:g<=d:=Xf hd h2;have e1:n.tdiv (g:Int)=n/(g:Int):=Int.tdiv_eq_ediv_of_dvd (abr h1);have e2:(d:Int).tdiv (g:Int)=((d/g:Nat):Int):=by rw[Y1 aa,<-Int.natCast_ediv]
 have e3:(n/(g:Int)).natAbs<=n.natAbs:=by
  rw[Int.natAbs_ediv_of_dvd (abr h1),Int.natAbs_natCast];exact Yk ..
 have e4:d/g<=d:=Yk ..;have eq:qT (qc n d)=[S (itoa (n/(g:Int))),S (AI (d/g))]:=by unfold qT qc;rw[<-hgg]
 rw[eq];generalize n/(g:Int)=nq at *;generalize d/g=dq at *;have i1:=Om (z:=nq) aa aa;have i2:=Om (z:=(dq:Int)) aa aa;rw[E5]at i2;have hg0:¬(g:Int)=0:=aa;simp[DK];refine lo (acx _ _ _ rfl (d:Int).natAbs n d (Z5 _) hn aa (fun c hc=>?_));rw[Int.natAbs_natCast,<-hgg]at hc;simp
 have tail:∀u:Unit,bnd (biI .quo (I n) (I g)) fun v6=>
   cal (CX Y).p [(1,.vars [.d (.str []),.d (.str [])])] (.fn F.strconv_Itoa [] []) [v6] fun v7 h=>
   bnd (biI .quo (I d) (I g)) fun v8=>
   cal (CX Y).p h (.fn F.strconv_Itoa [] []) [v8] fun v9 h=>
   bnd (bld [(0,1),(1,1)] [.str [],.str []] [(0,v7),(1,v9)]) fun v10=>
   stD h 2 (.ptr 0 1 0 2) v10 fun _ h=>
   bnd (ldA h 2 (.ptr 0 1 0 2)) fun v12=>
   out (.agg [S (itoa nq),S (AI dq)]) v12 h:=by
  intro _;simp(disch:=try exact zN)[e1,e2,hg0];refine cd i1 ?_;simp(disch:=try exact zN)[e2,hg0];refine cd i2 ?_;simp;exact EI rfl rfl
 by_cases hc0:c<0
 .have hcg : -c=(g:Int):=aa;refine D8 (l:=[I g]) (h:=[(1,.vars [.d (.str []),.d (.str [])])]) (fun q=>by simp(disch:=try exact zN)[hc0,hcg]) ?_;exact tail ()
 .have hcg:c=(g:Int):=aa;subst hcg;refine D8 (l:=[I g]) (h:=[(1,.vars [.d (.str []),.d (.str [])])]) (fun q=>by simp[hc0]) ?_;exact tail ()
def qL(K:Nat)(x:Q):Prop:=ndg x.1.natAbs<=K∧ndg x.2<=K
theorem aaP{n:Int}{K:Nat}(h1:ndg n.natAbs<=K)(h2:ndg d<=K):qL K (qc n d):=
 ⟨Zq (B3 (VS n d).1) h1,Zq (B3 (VS n d).2) h2⟩
theorem qL.mono{K:Nat}{x:Q}(h:qL K x)(hl:K<=L):qL L x:=⟨Zq h.1 hl,Zq h.2 hl⟩
theorem Kq(hz:ndg z.natAbs<=k)(hw:ndg w.natAbs<=k):ndg (z+w).natAbs<=k+1:=
 Zq (B3 (Int.natAbs_add_le z w)) (JA hz hw)
theorem ER:ndg (z*w).natAbs<=ndg z.natAbs+ndg w.natAbs:=by rw[Yr];exact IJ
theorem aew{a b:Q}{K:Nat}(ha:qL K a)(hb:qL L b):qL (K+L+1) (zj a b):=by
 refine aaP (Kq ?_ ?_) ?_
 .have:=ER (z:=a.1) (w:=(b.2:Int));rw[Int.natAbs_natCast]at this;have:=ha.1;have:=hb.2;omega
 .have:=ER (z:=b.1) (w:=(a.2:Int));rw[Int.natAbs_natCast]at this;have:=hb.1;have:=ha.2;omega
 .have:=IJ (a:=a.2) (b:=b.2);have:=ha.2;have:=hb.2;omega
theorem aak{a b:Q}{K:Nat}(ha:qL K a)(hb:qL L b):qL (K+L) (wm a b):=by
 refine aaP ?_ ?_
 .have:=ER (z:=a.1) (w:=b.1);have:=ha.1;have:=hb.1;omega
 .have:=IJ (a:=a.2) (b:=b.2);have:=ha.2;have:=hb.2;omega
theorem acm{a b:Q}(ha:okQ a)(hb:okQ b):okQ (zj a b):=Oj _ (Yi ha.1 hb.1)
theorem VF{a b:Q}(ha:okQ a)(hb:okQ b):okQ (wm a b):=Oj _ (Yi ha.1 hb.1)
theorem QE{n d:Int}(hd:d≠0)(hn:ndg n.natAbs<800000)(hd2:ndg d.natAbs<800000):CP Y F.Bo [S (itoa n),S (itoa d)] (.agg (qT (zt n d))):=by
 refine Mn ?_;have sg0:=Hh d
 have tail:∀(n:Int)(d:Nat),0<d->ndg n.natAbs<800000->ndg d<800000 ->
   cal (CX Y).p [(1,.vars [.d (.str []),.d (.str [])])] (.fn F.Gn [] []) [S (itoa n),S (AI d)] fun v6 h=>
  bnd (biS .neq v6 (.d (.str [49]))) fun v7=>
  jn (fun l8 h=>
   bnd (bld [(0,1),(1,1)] [.str [],.str []] [(0,(ge l8 0)),(1,(ge l8 1))]) fun v10=>
   stD h 2 (.ptr 0 1 0 2) v10 fun _ h=>
   bnd (ldA h 2 (.ptr 0 1 0 2)) fun v12=>
   out (.agg (qT (qc n d))) v12 h) fun q9=>
   cnd v7 (
    cal (CX Y).p h (.fn F.Bt [] []) [S (itoa n),v6] fun v13 h=>
    ext v13 0 fun v14=>
    ext v13 1 fun v15=>
    ext v13 2 fun v16=>
    cal (CX Y).p h (.fn F.Bt [] []) [S (AI d),v6] fun v17 h=>
    ext v17 0 fun v18=>
    ext v17 1 fun v19=>
    ext v17 2 fun v20=>
    q9 [v14,v18] h) (
    q9 [S (itoa n),S (AI d)] h):=by
  intro n d hd hn hd2;have gc:=VX (z:=n) (w:=(d:Int)) aa (by simpa using Nat.lt_trans hd2 AF);rw[E5,Int.natAbs_natCast]at gc;obtain⟨g,hgg⟩:=nmQ (Nat.gcd n.natAbs d);have hg:0<g:=by rw[hgg];exact Xg _ hd
  have hgd:g<=d:=Xf hd (by rw[hgg];exact Nat.gcd_dvd_right ..);have eq:qc n d=(n/(g:Int),d/g):=by unfold qc;rw[<-hgg]
  rw[<-hgg]at gc;rw[eq];have ng:ndg g<900000:=Yx (B3 hgd) aa;have d1:=OA (z:=n) hg aa ng;have d2:=I7 (a:=d) hg aa ng;simp;refine cd gc ?_;by_cases h1:g=1
  .subst h1;rw[Dh];simp;refine D8 (l:=[S (itoa n),S (AI d)]) (h:=[(1,.vars [.d (.str []),.d (.str [])])]) (fun q=>by simp) ?_;simp;refine EI mR mR
  .have h49:¬AI g=[49]:=fun h=>h1 (HZ (h.trans Dh.symm))
   simp[h49];refine AN ?_;simp[h49];refine cd d1 ?_;simp;refine cd d2 ?_;simp;exact EI rfl rfl
 simp[Bo];refine cd sg0 ?_;by_cases hneg:d<0
 .have s1:sgn d = -1:=by unfold sgn;rw[if_neg hd,if_pos hneg]
  rw[s1];have hd3:ndg (-d).natAbs<800000:=by rw[Int.natAbs_neg];exact hd2
  have n1:=VO (z:=n) aa;have n2:=VO (z:=d) aa;have e:zt n d=qc (-n) d.natAbs:=if_pos hneg;have ed:itoa (-d)=AI d.natAbs:=by rw[show -d=((d.natAbs:Nat):Int) by omega,E5]
  rw[e];rw[ed]at n2;simp;refine AN ?_;simp;refine cd n1 ?_;simp;refine cd n2 ?_;have:=tail (-n) d.natAbs aa (by rw[Int.natAbs_neg];exact hn) hd2;simpa using this
 .have s1:sgn d=1:=by unfold sgn;rw[if_neg hd,if_neg hneg]
  rw[s1];have e:zt n d=qc n d.natAbs:=if_neg hneg;have ed:itoa d=AI d.natAbs:=by conv=>lhs;rw[show d=((d.natAbs:Nat):Int) by omega,E5]
  rw[e,ed];simp;refine AN ?_;simp;have:=tail n d.natAbs aa hn hd2;simpa using this
theorem MA(a:Q):CP Y F.Cl [.agg (qT a)] (.tup [I (if sdg a.1<=9 then a.1 else 0),I (if ndg a.2<=9 then a.2 else 0),B (decide (sdg a.1<=9)&&decide (ndg a.2<=9))]):=by
 refine NQ ?_;have l1:=O2 a.1;have l2:=O2 (a.2:Int);have e:sdg (a.2:Int)=ndg a.2:=by unfold sdg;rw[if_neg aa,Int.natAbs_natCast];rfl
 rw[E5,e]at l2;simp[Cl,qT];refine cd l1 ?_;by_cases h1:sdg a.1<=9
 .rw[if_pos h1,if_pos h1,decide_eq_true h1];simp;refine cd l2 ?_;by_cases h2:ndg a.2<=9
  .rw[if_pos h2,if_pos h2,decide_eq_true h2];simp;exact Ej rfl rfl rfl
  .rw[if_neg h2,if_neg h2,decide_eq_false h2];simp;exact Ej rfl rfl rfl
 .rw[if_neg h1,if_neg h1,decide_eq_false h1];simp;refine cd l2 ?_;by_cases h2:ndg a.2<=9
  .rw[if_pos h2,if_pos h2,decide_eq_true h2];simp;exact Ej rfl rfl rfl
  .rw[if_neg h2,if_neg h2,decide_eq_false h2];simp;exact Ej rfl rfl rfl
theorem VT{n:Int}(hd:0<d)(hn:ndg n.natAbs<800000)(hd2:ndg d<800000):CP Y F.Bo [S (itoa n),S (AI d)] (.agg (qT (qc n d))):=by have:=QE (n:=n) (d:=(d:Int)) aa hn (by trivial);trivial
theorem Qj(hz:ndg z.natAbs<400000)(hb:ndg b<400000):CP Y F.A7 [S (itoa z),S (AI b)] (S (itoa (z*b))):=by grind[J3,E5]
theorem Q3(h:Hp)(s t:LuQ):AT h [.agg [S s,S t]]=some ([.agg [S s,S t]],h):=by rfl
theorem Q5{a:Q}(h1:sdg a.1<=9)(h2:ndg a.2<=9):a.1.natAbs<1000000000∧a.2<1000000000:=
 ⟨KJ h1,Zv (BI _) (Zc AF h2)⟩
theorem aa5{a b:Q}(ha:okQ a)(hb:okQ b)(la:qL 100000 a)(lb:qL 100000 b):CP Y F.EW [.agg (qT a),.agg (qT b)] (.agg (qT (wm a b))):=by
 refine Pd ?_;obtain⟨la1,la2⟩:=la;obtain⟨lb1,lb2⟩:=lb;have b1:=MA a;have b2:=MA b;have m1:=J3 (z:=a.1) (w:=b.1) aa aa;have m2:=J4 (a:=a.2) (b:=b.2) aa aa;have n1:=ER (z:=a.1) (w:=b.1);have n2:=IJ (a:=a.2) (b:=b.2);have hd:0<a.2*b.2:=Yi ha.1 hb.1
 have lw:CP Y F.Bo [S (itoa (a.1*b.1)),S (AI (a.2*b.2))] (.agg (qT (wm a b))):=VT (n:=a.1*b.1) hd aa aa;have ff:(a.1*b.1).natAbs<9223372036854775807->a.2*b.2<9223372036854775807->CP Y F.DK [I (a.1*b.1),I (a.2*b.2:Nat)] (.agg (qT (wm a b))):=fun h1 h2=>V0 hd h1 h2
 obtain⟨x,y,hxy⟩:∃x y,qT (wm a b)=[S x,S y]:=⟨_,_,rfl⟩;rw[hxy]at lw ff ⊢;simp only[qT]at b1 b2 ⊢
 have tail:∀u:Unit,cal (CX Y).p [(1,.vars [S (itoa a.1),S (AI a.2)]),(1,.vars [S (itoa b.1),S (AI b.2)]),(1,.vars [.d (.str []),.d (.str [])])] (.fn F.A7 [] []) [S (itoa a.1),S (itoa b.1)] fun v15 h=>
  bnd (faV 1 (.ptr 0 1 0 2)) fun v16=>
  bnd (ld1 h v16) fun v17=>
  bnd (faV 1 (.ptr 1 1 0 2)) fun v18=>
  bnd (ld1 h v18) fun v19=>
  cal (CX Y).p h (.fn F.A7 [] []) [v17,v19] fun v20 h=>
  cal (CX Y).p h (.fn F.Bo [] []) [v15,v20] fun v21 h=>
  stD h 2 (.ptr 2 1 0 2) v21 fun _ h=>
  bnd (ldA h 2 (.ptr 2 1 0 2)) fun v23=>
  out (.agg [S x,S y]) v23 h:=by
  intro _;simp;refine cd m1 ?_;simp;refine cd m2 ?_;simp;refine cd lw ?_;simp;exact EI rfl rfl
 simp[EW];refine cd b1 ?_ (Q3 ..);cases g1:decide (sdg a.1<=9)&&decide (ndg a.2<=9)with
 | false=>
  simp;refine AN ?_;simp
  simp_all
 | true=>
  simp only[Z7,decide_eq_true_eq]at g1;obtain⟨s1,s2⟩:=Q5 g1.1 g1.2;rw[if_pos g1.1,if_pos g1.2];simp;refine AN ?_;simp;refine cd b2 ?_ (Q3 ..);cases g2:decide (sdg b.1<=9)&&decide (ndg b.2<=9)with
  | false=>
   simp
   simp_all
  | true=>
   simp only[Z7,decide_eq_true_eq]at g2;obtain⟨s3,s4⟩:=Q5 g2.1 g2.2;rw[if_pos g2.1,if_pos g2.2];have p1:(a.1*b.1).natAbs<1000000000*1000000000:=by rw[Yr];exact Yd s1 s3
   have p2:a.2*b.2<1000000000*1000000000:=Yd s2 s4;have e2:(a.2:Int)*(b.2:Int)=((a.2*b.2:Nat):Int):=mR;have ff:=ff aa aa;obtain⟨N,hN⟩:=mnQ (a.1*b.1);rw[hN]at p1 ff;generalize a.2*b.2=D at *;simp(disch:=try exact zN)[e2,hN];refine cd ff ?_;simp;simp[EI]
theorem aa6{a b:Q}(ha:okQ a)(hb:okQ b)(la:qL 100000 a)(lb:qL 100000 b):CP Y F.C5 [.agg (qT a),.agg (qT b)] (.agg (qT (zj a b))):=by
 refine Pf ?_;obtain⟨la1,la2⟩:=la;obtain⟨lb1,lb2⟩:=lb;have b1:=MA a;have b2:=MA b;have m1:=Qj (z:=a.1) (b:=b.2) aa aa;have m2:=Qj (z:=b.1) (b:=a.2) aa aa;have m3:=J4 (a:=a.2) (b:=b.2) aa aa;have n1:=ER (z:=a.1) (w:=(b.2:Int));have n2:=ER (z:=b.1) (w:=(a.2:Int))
 have n3:=IJ (a:=a.2) (b:=b.2);rw[Int.natAbs_natCast]at n1 n2;have n4:ndg (a.1*b.2+b.1*a.2).natAbs<=200000+1:=Kq aa aa;have ad:=LM (z:=a.1*b.2) (w:=b.1*a.2) aa aa;have hd:0<a.2*b.2:=Yi ha.1 hb.1
 have lw:CP Y F.Bo [S (itoa (a.1*b.2+b.1*a.2)),S (AI (a.2*b.2))] (.agg (qT (zj a b))):=VT hd aa aa;have ff:(a.1*b.2+b.1*a.2).natAbs<9223372036854775807->a.2*b.2<9223372036854775807->CP Y F.DK [I (a.1*b.2+b.1*a.2),I (a.2*b.2:Nat)] (.agg (qT (zj a b))):=fun h1 h2=>V0 hd h1 h2
 by_cases one:a.2=1∧b.2=1
 .have ad1:=LM (z:=a.1) (w:=b.1) aa aa
  have eq:zj a b=(a.1+b.1,1):=by
   unfold zj;rw[one.1,one.2];rw[aaO mR];simp
  rw[eq];have t1:qT a=[S (itoa a.1),S [49]]:=by unfold qT;rw[one.1,Dh]
  have t2:qT b=[S (itoa b.1),S [49]]:=by unfold qT;rw[one.2,Dh]
  have t3:qT (a.1+b.1,1)=[S (itoa (a.1+b.1)),S [49]]:=by unfold qT;rw[Dh]
  rw[t1,t2,t3];simp[C5];refine cd ad1 ?_;simp;simp[EI]
 obtain⟨x,y,hxy⟩:∃x y,qT (zj a b)=[S x,S y]:=⟨_,_,rfl⟩;rw[hxy]at lw ff ⊢;simp only[qT]at b1 b2 ⊢
 have tail:∀u:Unit,cal (CX Y).p [(1,.vars [S (itoa a.1),S (AI a.2)]),(1,.vars [S (itoa b.1),S (AI b.2)]),(1,.vars [.d (.str []),.d (.str [])])] (.fn F.A7 [] []) [S (itoa a.1),S (AI b.2)] fun v30 h=>
   bnd (faV 0 (.ptr 1 1 0 2)) fun v31=>
   bnd (ld1 h v31) fun v32=>
   bnd (faV 1 (.ptr 0 1 0 2)) fun v33=>
   bnd (ld1 h v33) fun v34=>
   cal (CX Y).p h (.fn F.A7 [] []) [v32,v34] fun v35 h=>
   cal (CX Y).p h (.fn F.BL [] []) [v30,v35] fun v36 h=>
   bnd (faV 1 (.ptr 0 1 0 2)) fun v37=>
   bnd (ld1 h v37) fun v38=>
   bnd (faV 1 (.ptr 1 1 0 2)) fun v39=>
   bnd (ld1 h v39) fun v40=>
   cal (CX Y).p h (.fn F.A7 [] []) [v38,v40] fun v41 h=>
   cal (CX Y).p h (.fn F.Bo [] []) [v36,v41] fun v42 h=>
   stD h 2 (.ptr 2 1 0 2) v42 fun _ h=>
   bnd (ldA h 2 (.ptr 2 1 0 2)) fun v44=>
   out (.agg [S x,S y]) v44 h:=by
  intro _;simp;refine cd m1 ?_;simp;refine cd m2 ?_;simp;refine cd ad ?_;simp;refine cd m3 ?_;simp;refine cd lw ?_;simp;exact EI rfl rfl
 have hne:¬(AI a.2=[49]∧AI b.2=[49]):=fun h=>one ⟨HZ (h.1.trans Dh.symm),HZ (h.2.trans Dh.symm)⟩
 have walk:∀u:Unit,bnd (ldA [(1,.vars [S (itoa a.1),S (AI a.2)]),(1,.vars [S (itoa b.1),S (AI b.2)]),(1,.vars [.d (.str []),.d (.str [])])] 2 (.ptr 0 1 0 2)) fun v19=>
  cal (CX Y).p [(1,.vars [S (itoa a.1),S (AI a.2)]),(1,.vars [S (itoa b.1),S (AI b.2)]),(1,.vars [.d (.str []),.d (.str [])])] (.fn F.Cl [] []) [v19] fun v20 h=>
  ext v20 0 fun v21=>
  ext v20 1 fun v22=>
  ext v20 2 fun v23=>
  jn (fun l24 h=>
   bnd (faV 0 (.ptr 0 1 0 2)) fun v26=>
   bnd (ld1 h v26) fun v27=>
   bnd (faV 1 (.ptr 1 1 0 2)) fun v28=>
   bnd (ld1 h v28) fun v29=>
   cal (CX Y).p h (.fn F.A7 [] []) [v27,v29] fun v30 h=>
   bnd (faV 0 (.ptr 1 1 0 2)) fun v31=>
   bnd (ld1 h v31) fun v32=>
   bnd (faV 1 (.ptr 0 1 0 2)) fun v33=>
   bnd (ld1 h v33) fun v34=>
   cal (CX Y).p h (.fn F.A7 [] []) [v32,v34] fun v35 h=>
   cal (CX Y).p h (.fn F.BL [] []) [v30,v35] fun v36 h=>
   bnd (faV 1 (.ptr 0 1 0 2)) fun v37=>
   bnd (ld1 h v37) fun v38=>
   bnd (faV 1 (.ptr 1 1 0 2)) fun v39=>
   bnd (ld1 h v39) fun v40=>
   cal (CX Y).p h (.fn F.A7 [] []) [v38,v40] fun v41 h=>
   cal (CX Y).p h (.fn F.Bo [] []) [v36,v41] fun v42 h=>
   stD h 2 (.ptr 2 1 0 2) v42 fun _ h=>
   bnd (ldA h 2 (.ptr 2 1 0 2)) fun v44=>
   out (.agg [S x,S y]) v44 h) fun q25=>
   cnd v23 (
    bnd (ldA h 2 (.ptr 1 1 0 2)) fun v45=>
    cal (CX Y).p h (.fn F.Cl [] []) [v45] fun v46 h=>
    ext v46 0 fun v47=>
    ext v46 1 fun v48=>
    ext v46 2 fun v49=>
    cnd v49 (
     bnd (biI .mul v21 v48) fun v50=>
     bnd (biI .mul v47 v22) fun v51=>
     bnd (biI .add v50 v51) fun v52=>
     bnd (biI .mul v22 v48) fun v53=>
     cal (CX Y).p h (.fn F.DK [] []) [v52,v53] fun v54 h=>
     stD h 2 (.ptr 2 1 0 2) v54 fun _ h=>
     bnd (ldA h 2 (.ptr 2 1 0 2)) fun v56=>
     out (.agg [S x,S y]) v56 h) (
     q25 [] h)) (
    q25 [] h):=by
  intro _;simp;refine cd b1 ?_ (Q3 ..);cases g1:decide (sdg a.1<=9)&&decide (ndg a.2<=9)with
  | false=>
   simp;refine AN ?_;simp
   simp_all
  | true=>
   simp only[Z7,decide_eq_true_eq]at g1;obtain⟨s1,s2⟩:=Q5 g1.1 g1.2;rw[if_pos g1.1,if_pos g1.2];simp;refine AN ?_;simp;refine cd b2 ?_ (Q3 ..);cases g2:decide (sdg b.1<=9)&&decide (ndg b.2<=9)with
   | false=>
    simp
    simp_all
   | true=>
    simp only[Z7,decide_eq_true_eq]at g2;obtain⟨s3,s4⟩:=Q5 g2.1 g2.2;rw[if_pos g2.1,if_pos g2.2];have p1:(a.1*b.2).natAbs<1000000000*1000000000:=by rw[Yr,Int.natAbs_natCast];exact Yd s1 s4
    have p3:(b.1*a.2).natAbs<1000000000*1000000000:=by rw[Yr,Int.natAbs_natCast];exact Yd s3 s2
    have p2:a.2*b.2<1000000000*1000000000:=Yd s2 s4;have e2:(a.2:Int)*(b.2:Int)=((a.2*b.2:Nat):Int):=mR;have ff:=ff aa aa;obtain⟨N,hN⟩:∃N,a.1*(b.2:Int)=N:=⟨_,rfl⟩;obtain⟨M,hM⟩:∃M,b.1*(a.2:Int)=M:=⟨_,rfl⟩;rw[hN]at p1 ff;rw[hM]at p3 ff;generalize a.2*b.2=D at *;simp(disch:=try exact zN)[e2,hN,hM];refine cd ff ?_;simp
    simp[EI]
 by_cases c1:AI a.2=[49]
 .have c2:¬AI b.2=[49]:=fun h=>hne ⟨c1,h⟩
  simp[C5,c1,c2]
  simp_all
 .simp[C5,c1]
  simp_all
theorem QK(a:Q):CP Y F.DL [.agg (qT a)] (I (sgn a.1)):=by refine NR ?_;simp[DL,qT];refine cd (Hh a.1) ?_;exact A3 rfl
theorem ZK(z:Int):sgn z=0↔z=0:=by
 unfold sgn;constructor
 .intro h;split at h
  .assumption
  .split at h<;>omega
 .intro h;rw[if_pos h]
theorem S7{a b:LuQ}:out (.tup [.agg [S a,S b],I c]) (.tup [.agg [S a,S b],I c]) h:=⟨h,by simp[cX,AT,norm]⟩
theorem aa4{n d:Int}(hd:d≠0)(hn:ndg n.natAbs<800000)(hd2:ndg d.natAbs<800000):CP Y F.FL [S (itoa n),S (itoa d)] (.tup [.agg (qT (zt n d)),I 0]):=by
 refine Pb ?_;have sg0:=Hh d;have hs:¬sgn d=0:=fun h=>hd ((ZK _).1 h)
 have lw:=QE hd hn hd2;obtain⟨x,y,hxy⟩:∃x y,qT (zt n d)=[S x,S y]:=⟨_,_,rfl⟩;rw[hxy]at lw ⊢;generalize sgn d=sb at *;simp[FL];refine cd sg0 ?_;simp[hs];refine cd lw ?_;simp;exact S7
theorem Ru(h1 : -9223372036854775808<z)(h2:z<9223372036854775808):ndg z.natAbs<=19:=jK aa AF
theorem Tv{n d:Int}(hd:d≠0)(h1 : -9223372036854775808<n)(h2:n<9223372036854775808)(h3 : -9223372036854775808<d)(h4:d<9223372036854775808):CP Y F.En [I n,I d] (.tup [.agg (qT (zt n d)),I 0]):=by refine PW ?_;have nw:=aa4 (n:=n) hd (Yx (Ru h1 h2) AF) (Yx (Ru h3 h4) AF);obtain⟨x,y,hxy⟩:∃x y,qT (zt n d)=[S x,S y]:=⟨_,_,rfl⟩;rw[hxy]at nw ⊢;simp[En];refine cd (Ip h1 h2) ?_;simp;refine cd (Ip h3 h4) ?_;simp;refine cd nw ?_;simp;exact S7
@[simp] theorem ae7 (f:α->D)(l:List α)(place:Nat->Option (Nat×Nat))(cs:LwQ)(r:List (Nat×V))(off sz:Nat):
  lu (some (off,sz)) place cs (lst f l) r=if 1=sz∧off+1<=cs.length then dt place (cs.take off++[lst f l]++cs.drop (off+1)) r else none:=id rfl
theorem adk(s:LuQ):CP Y F.Db [S s] (S (rdT s)):=by refine Nu ?_;simp[Db];refine cd (J8 s) ?_;simp<;>exact Cu rfl
theorem Qs(a b:LuQ)(ha:a.length<1000000000)(hb:b.length<1000000000):CP Y F.Ft [.agg [S a,S b]] (B (Kb a&&decide (b.length<=30))):=by
 refine Q7 ?_;simp[Ft];refine cd (adk a) ?_;have hl:(rdT a).length<=a.length:=by unfold rdT;split<;>simp
 by_cases h1:(rdT a).length<=30
 .have h1':((rdT a).length:Int)<=30:=aa;by_cases h2:b.length<=30
  .have h2':(b.length:Int)<=30:=aa;simp[h1',h2']<;>exact F5 (by grind[Kb])
  .have h2':¬(b.length:Int)<=30:=aa;simp[h1',h2']<;>exact F5 (by grind)
 .have h1':¬((rdT a).length:Int)<=30:=aa;simp[h1']<;>exact F5 (by simp[Kb,h1])
def sz4(x:Tx):Bool:=Kb x.1&&decide (x.2.length<=30)
def OI:List Tx->Int
 |[]=>0
 |x::q=>cond (rdF x.1 x.2).isSome (cond (sz4 x) (OI q) 4) 2
theorem OL{s:List Tx}(hN:s.length<1000000000)(hl:∀x∈s,x.1.length<1000000000∧x.2.length<1000000000)(k:KL):∀(q a:List Tx),a++q=s->(OI q=0->k (.exit 0) [] [nnQ])->(OI q≠0->∀h,k .ret [I (OI q)] h) ->
  lp (He (CX Y) (sk ub s) (I s.length)) [0] [nnQ] [I a.length] [nnQ] k
 | []=>by
  intro a ha h0 h1;simp at ha;subst ha;refine AJ ?_;simp[He];exact h0 rfl
 | x::q=>by
  intro a ha h0 h1;have hal:a.length<s.length:=by subst ha;simp
  have hx:nth ([],[]) s a.length=x:=by subst ha;simp
  have hxl:=hl x (by grind);have e1:=fun h:Hp=>GE ub Bp s h (k:=.i64) (i:=(a.length:Int)) aa aa
  have e2:=fun h:Hp=>GD ub Bp ([],[]) s h hal
  simp only[hx,Int.toNat_natCast]at e1 e2;have ih:=OL hN hl k q (a++[x]) (by grind);refine AJ ?_;simp(disch:=try exact zN)[He,e1,e2,ub];refine cd (Jo x.1 x.2 hxl.1 hxl.2) ?_;cases g3:(rdF x.1 x.2).isSome with
  | false=>
   simp only[OI,g3,cond_false]at h1;simp[g3]
   grind
  | true=>
   simp[g3];refine cd (Qs x.1 x.2 hxl.1 hxl.2) ?_;cases g1:sz4 x with
   | false=>
    simp only[OI,g3,g1,cond_true,cond_false]at h1;rw[show(Kb x.1&&decide (x.2.length<=30))=false from g1];simp
    grind
   | true=>
    simp only[OI,g3,g1,cond_true]at h0 h1;have:=ih h0 h1;rw[show(Kb x.1&&decide (x.2.length<=30))=true from g1];simp(disch:=try exact zN)[clean,dp,E4,jF,d9,aL]
    simp_all
def scB(n:Nat)(s:List Tx):Int:=if s.length=n then OI s else 5
theorem SG{s:List Tx}(hl:∀x∈s,x.1.length<1000000000∧x.2.length<1000000000)(hs:s.length<1000000000):CP Y F.EU [lst di p,sk ub s] (I (scB p.length s)):=by
 have lp':fL (lst di p)=some (I p.length):=rfl;have ls':fL (sk ub s)=some (I s.length):=rfl;refine Q8 ?_;by_cases h1:s.length=p.length
 .have h1':((s.length:Int)=(p.length:Int))=True:=eq_true aa;have e:scB p.length s=OI s:=if_pos h1;rw[e];simp[EU,lp',ls',h1'];refine lo (OL hs hl _ s [] rfl (fun g=>?_) (fun g h=>?_))
  .simp_all
  simp
 .have h1':¬((s.length:Int)=(p.length:Int)):=aa;have e:scB p.length s=5:=if_neg h1;rw[e];simp[EU,lp',ls',h1']<;>exact A3 rfl
def siB(p:LiQ)(s:List Tx):Int:=if pcB p=0 then scB p.length s else pcB p
theorem ZI{s:List Tx}(hp:p.length<1000000000)(hl:∀x∈s,x.1.length<1000000000∧x.2.length<1000000000)(hs:s.length<1000000000):CP Y F.F9 [lst di p,sk ub s] (I (siB p s)):=by
 refine Ra ?_;simp[F9];refine cd (FY hp) ?_;by_cases h:pcB p=0
 .have e:siB p s=scB p.length s:=if_pos h;rw[e];simp[h];refine cd (SG hl hs) ?_;simp<;>exact A3 rfl
 .have e:siB p s=pcB p:=if_neg h;rw[e];simp[h]<;>exact A3 rfl
end Go.Vm
