/- Lemmas. -/
import Derived.Test.YtemefafdcbjanaaGreatDoorQDcY
set_option linter.unusedVariables false
set_option linter.unusedSimpArgs false
namespace Go.Vm
open Go Go.Am Go.Big
variable{s a b n e i k d g L:Nat}{z w c:Int}{p:LiQ}{A l:LnQ}{h:Hp}{ex fr:Bool}{α:Type}
def shH(o:LnQ):Hp:=[(1,.data 1 (o.map u32) false false),nnQ]
@[simp]theorem aeZ(o:LnQ):List.length (shH o)=2:=id rfl
def slH(o:LnQ):Hp:=[nnQ,(1,.data 1 (o.map u32) true false)]
@[simp]theorem aeT(o:LnQ):List.length (slH o)=2:=id rfl
def rdT(s:LuQ):LuQ:=if s.headD 0=45 then s.tail else s
def rdN(s:LuQ):Bool:=decide (s.headD 0=45)
def rd(s:LuQ):Option Int:=if(rdT s).length<=400 then rdS s else none
theorem aat(s:LuQ):rd s=if(rdT s).length<=400∧rdT s≠[]∧¬((rdT s).headD 0=48∧(1<(rdT s).length∨rdN s=true))∧(rdT s).all pT=true then some (if rdN s=true then -(fi 0 (rdT s):Int)else(fi 0 (rdT s):Int))else none:=by
 unfold rd rdS
 have hcan:∀t:LuQ,qj t=true↔t≠[]∧t.all pT=true∧¬(1<t.length∧t.headD 0=48):=fun t=>by
  simp[qj,and_assoc];intro _ _;constructor
  .rintro(h|h) g
   .omega
   omega
  .intro h;by_cases g:1<t.length
   .grind
   .exact .inl aa
 by_cases h:s.headD 0=45
 .have e1:rdT s=s.tail:=by unfold rdT;rw[if_pos h]
  have e2:rdN s=true:=by unfold rdN;simpa using h
  rw[e1,e2,if_pos h];generalize s.tail=t;by_cases h1:t.length<=400
  .simp only[h1,if_true,true_and,hcan];by_cases h2:t≠[]∧¬(t.headD 0=48∧(1<t.length∨True))∧t.all pT=true
   .grind
   .rw[if_neg h2,if_neg];rintro⟨⟨a,b,c⟩,d⟩;refine h2 ⟨a,fun x=>?_,b⟩;by_cases g:1<t.length
    .grind
    .apply d;cases t with
     |nil=>trivial
     | cons y t=>
      grind
  grind
 .have e1:rdT s=s:=by unfold rdT;rw[if_neg h]
  have e2:rdN s=false:=by unfold rdN;simpa using h
  grind
@[simp]theorem ae6(n:Nat):okV (nat n)=true:=id rfl
theorem S5{s:LuQ}(h:rd s=some z):z.natAbs<10^400:=by
 rw[aat]at h;split at h
 .rename_i hc;simp only[Z9]at h;have hi:=tA (rdT s) 0 hc.2.2.2;have:fi 0 (rdT s)<10^400:=Z3 hi (by set_option exponentiation.threshold 1000 in rw[Zk,Ww];exact Z4 af hc.1)
  have hz:z.natAbs=fi 0 (rdT s):=by
   rw[<-h];split<;>simp
  rw[hz];exact this
 .cases h
def rdF(a b:LuQ):Option (Int×Nat):=match rd a,rd b with
 |some n,some d=>if 0<d∧Nat.gcd n.natAbs d.natAbs=1 then some (n,d.natAbs)else none
 |_,_=>none
theorem cJ(h:a<=b):ndg a<=ndg b:=cQ (Zj h (de b)) (kX b)
theorem QH(k:KL):∀(b a:Nat),ndg a<1000000->ndg b<1000000->k (.exit 0) [S (ah (Nat.gcd a b))] []->lp (pq (CX Y)) [] [] [S (ah a),S (ah b)] [] k:=by
 intro b
 induction b using Nat.strongRecOn with
 | _ b ih=>
  intro a ha hb hk;by_cases h0:b=0
  .subst h0;rw[Nat.gcd_zero_right]at hk;refine ai ?_;rw[dS];simp[pq];exact hk
  .have hbp:0<b:=aa
   have hne:¬ah b=[48]:=by
    rw[<-dS];intro e;have:=congrArg (fi 0) e;rw[dU,dU]at this;omega
   have hm:=Y1 a hbp
   have hk2:=ih (a%b) hm b hb (Zj (cJ (Nat.le_of_lt hm)) hb) (by
    rw[Wn b,<-Nat.gcd_rec,Wn b];exact hk)
   refine ai ?_;simp[pq,hne];refine cd (wn hbp ha hb) ?_;simp;exact hk2
theorem OI(ha:ndg a<1000000)(hb:ndg b<1000000):CP Y F.m7 [S (ah a),S (ah b)] (S (ah (Nat.gcd a b))):=by refine Fl ?_;simp[m7];refine lo (QH _ b a ha hb ?_);simp;exact eU rfl
theorem QG(k:KL):∀(b a:Nat),a<1000000000000000000->b<1000000000000000000->k (.exit 0) [I (Nat.gcd a b:Nat)] []->lp (qy (CX Y)) [] [] [I a,I b] [] k:=by
 intro b
 induction b using Nat.strongRecOn with
 | _ b ih=>
  intro a ha hb hk;by_cases h0:(b:Int)=0
  .have:b=0:=aa;subst this;rw[Nat.gcd_zero_right]at hk;refine ai ?_;simp[qy];exact hk
  .have hbp:0<b:=aa;have hm:=Y1 a hbp
   have hk2:=ih (a%b) hm b hb aa (by
    rw[Wn b,<-Nat.gcd_rec,Wn b];exact hk)
   have h0':¬b=0:=aa;have e2:(a:Int)%(b:Int)=((a%b:Nat):Int):=ae;obtain⟨r,hr⟩:=mnQ (a%b);rw[hr]at hk2 e2;refine ai ?_;simp[qy,h0,h0',Zw,e2];exact hk2
theorem YD(ha:a<1000000000000000000)(hb:b<1000000000000000000):CP Y F.qO [I a,I b] (I (Nat.gcd a b:Nat)):=by refine II ?_;simp[qO];refine lo (QG _ b a ha hb ?_);simp only[kz];exact bP rfl
theorem My(h:n<9223372036854775808):CP Y F.dF [I n] (S (ah n)):=by
 refine Ce ?_;simp[dF];have e:itoa (n:Int)=ah n:=by unfold itoa;rw[if_neg aa];rfl
 refine cd (BU (z:=n) aa aa) ?_;rw[e]
 try simp(disch:=try exact ac)
 exact eU rfl
theorem Dv(a:Nat):CP Y F.bL [S (ah a),I 18] (if ndg a<=18 then .tup [I a,B true]else .tup [I 0,B false]):=by
 refine qW ?_;have la:=lV a;by_cases h:18<ndg a
 .rw[if_neg aa];simp(disch:=try exact ac)[bL,la,h];exact bN rfl rfl
 .rw[if_pos aa];have ap:=Iw (n:=a) (kX a) aa (de a);have en:biF .eql (.d (.pl .nilIface)) (.d (.pl .nilIface))=some (.d (.bool true)):=rfl;simp(disch:=try exact ac)[bL,la,h];refine cd (args:=[S (ah a)]) ap ?_;simp[en];exact bN rfl rfl
theorem u7(s:LuQ):CP Y F.aU [S s] (.tup [B (rdN s),S (rdT s)]):=by
 refine EH ?_;cases s with
 | nil=>
  simp[aU];exact bN rfl rfl
 | cons c t=>
  have hix:ixS (S (c::t)) (.d (.int .i64 0))=some (.d (.int .u8 c.toNat)):=rfl;by_cases h:c=45
  .subst h;have e:((45:UInt8).toNat:Int)=45:=rfl;simp(disch:=try exact ac)[aU,hix,e];exact bN rfl rfl
  .have e:¬(c.toNat:Int)=45:=fun g=>h (by apply UInt8.toNat.inj;simpa using(by omega:c.toNat=45))
   have e1:rdT (c::t)=c::t:=by simp[rdT,h]
   have e2:rdN (c::t)=false:=by simp[rdN,h]
   rw[e1,e2];simp[aU,hix,e];exact bN rfl rfl
theorem GL(l:LuQ)(hl:l.length<1000000000)(k:KL):∀(q p:LuQ),p++q=l->(q.all pT=true->k (.exit 0) [] [])->(q.all pT=false->k .ret [B false] [])->lp (eY (CX Y) (lst u8 l) (I l.length)) [] [] [I p.length] [] k
 | []=>by
  intro p hp h0 h1;simp at hp;subst hp;refine ai ?_;simp[eY];exact h0 rfl
 | c::q=>by
  intro p hp h0 h1;have hpl:p.length<l.length:=by subst hp;simp
  have hc:nth 0 l p.length=c:=by subst hp;simp
  have e1:=fun h:Hp=>nU u8 l h (k:=.i64) (i:=(p.length:Int)) aa aa
  have e2:=fun h:Hp=>md u8 0 l h (j:=p.length) hpl
  rw[hc]at e2;simp only[Int.toNat_natCast]at e1;have ih:=GL l hl k q (p++[c]) (by simpa using hp);refine ai ?_;by_cases g1:(c.toNat:Int)<48
  .have g3:pT c=false:=by rw[Bool.eq_false_iff];intro h;rw[lJ]at h;omega
   simp(disch:=try exact ac)[eY,e1,e2,u8,g1];exact h1 (by simp[g3])
  .by_cases g2:(57:Int)<c.toNat
   .have g3:pT c=false:=by rw[Bool.eq_false_iff];intro h;rw[lJ]at h;omega
    simp(disch:=try exact ac)[eY,e1,e2,u8,g1,g2];exact h1 (by simp[g3])
   .have g3:pT c=true:=by rw[lJ];omega
    have:=ih (fun h=>h0 (by simp[g3];simpa using h)) (fun h=>h1 (by simp only[List.all_cons,h,Wo]));simp(disch:=try exact ac)[eY,e1,e2,u8,g1,g2];simpa using this
theorem ZF(l:LuQ)(hl:l.length<1000000000):CP Y F.hO [S l] (B (qj l)):=by
 refine wQ ?_;unfold hO
 show cvB (S l) _ _
 rw[aaL];have lL:ju (S l)=some (I l.length):=rfl;simp;refine lo (GL l hl _ l [] rfl (fun e=>?_) (fun e=>?_))
 .simp only[kz];cases l with
  | nil=>
   simp[lL];exact cx (by simp[qj])
  | cons c t=>
   have hix:ixS (S (c::t)) (.d (.int .i64 0))=some (.d (.int .u8 c.toNat)):=rfl;cases t with
   | nil=>
    simp[lL];exact cx (by simp[qj]at e ⊢;exact e)
   | cons d t=>
    obtain⟨N,hN⟩:∃N,(c::d::t).length=N:=⟨_,rfl⟩;have hN2:2<=N:=by rw[<-hN];simp only[List.length_cons];omega
    rw[hN]at lL;have g2:(1:Int)<(N:Int):=aa;have g3:¬(N:Int)=1:=aa;by_cases h:c=48
    .subst h;have e48:((48:UInt8).toNat:Int)=48:=rfl;simp[lL,g2,g3,hix,e48];exact cx (by simp[qj])
    .have e48:¬(c.toNat:Int)=48:=fun g=>h (by apply UInt8.toNat.inj;simpa using(by omega:c.toNat=48))
     simp[lL,g2,g3,hix,e48]
     exact cx (by
      have:qj (c::d::t)=true:=by simp only[qj,e];simp[h]
      exact this.symm)
 .simp only[yF,BY];exact cx (by simp only[qj,e,Wo,Wx])
theorem Q0(l:LuQ)(hl:l.length<1000000000):CP Y F.jX [S l] (I (if qj l=true∧l.length<=400 then 0 else 2)):=by
 refine Bw ?_;have lL:ju (S l)=some (I l.length):=rfl;obtain⟨N,hN⟩:=mnQ (l.length);rw[hN]at lL ⊢;simp[jX];refine cd (ZF l hl) ?_;cases hc:qj l with
 | false=>
  simp<;>exact bP ae
 | true=>
  by_cases h:(400:Int)<N
  .simp[lL,h]<;>exact bP (by rw[if_neg aa])
  .have h2:true=true∧N<=400:=⟨rfl,aa⟩;simp[lL,h]<;>exact bP (by rw[if_pos h2.2])
theorem P8(s:LuQ):(rd s).isSome=(!(rdN s&&decide (rdT s=[48]))&&(qj (rdT s)&&decide ((rdT s).length<=400))):=by
 unfold rd rdS rdN rdT;by_cases h45:s.headD 0=45
 .simp only[h45,if_true];obtain⟨t,ht⟩:=mnQ (s.tail);rw[ht];by_cases hl:t.length<=400
  .by_cases h48:t=[48]
   .simp[h48]
   .cases hc:qj t<;>simp[hl,h48]
  .simp[hl]
 .simp only[h45,if_false];by_cases hl:s.length<=400
  .cases hc:qj s<;>simp[hl]
  .simp[hl]
theorem GG(s:LuQ)(hs:s.length<1000000000):CP Y F.mL [S s] (I (if(rd s).isSome then 0 else 2)):=by
 refine EK ?_
 have hT:(rdT s).length<1000000000:=by
  unfold rdT;split
  .have:s.tail.length=s.length-1:=List.length_tail;omega
  .exact hs
 rw[P8];simp[mL];refine cd (u7 s) ?_;have hck:=Q0 (rdT s) hT;obtain⟨t,ht⟩:=mnQ (rdT s);rw[ht]at hck ⊢;obtain⟨c4,hc4⟩:∃c4,(qj t&&decide (t.length<=400))=c4:=⟨_,rfl⟩
 have hck2:CP Y F.jX [S t] (I (if c4=true then 0 else 2)):=by
  have:(if qj t=true∧t.length<=400 then(0:Int)else 2)=if c4=true then 0 else 2:=by
   rw[<-hc4];by_cases h:qj t=true∧t.length<=400
   .rw[if_pos h];simp[h]
   .rw[if_neg h];rw[if_neg (by simpa using h)]
  rw[<-this];exact hck
 rw[hc4];cases hn:rdN s with
 | true=>
  by_cases h3:t=[48]
  .simp[h3]<;>exact bP ae
  .simp[h3];refine cd hck2 ?_;cases c4 with
   |true=>simp[h3]<;>exact bP (by simp[h3])
   |false=>simp[h3]<;>exact bP (by simp[h3])
 | false=>
  simp;refine cd hck2 ?_;cases c4 with
  |true=>simp<;>exact bP ae
  |false=>simp<;>exact bP ae
theorem tw(z:Int):rdT (itoa z)=ah z.natAbs:=by
 unfold itoa rdT;split
 .simp
 .rw[if_neg (rG _)]
theorem yU(z:Int):CP Y F.eQ [S (itoa z)] (S (ah z.natAbs)):=by refine Az ?_;have:=u7 (itoa z);rw[tw]at this;simp[eQ];refine cd this ?_;simp<;>exact eU rfl
def sgn(z:Int):Int:=if z=0 then 0 else if z<0 then -1 else 1
theorem oY(z:Int):CP Y F.c8 [S (itoa z)] (I (sgn z)):=by
 refine GX ?_;by_cases h0:z=0
 .subst h0;have e:itoa 0=[48]:=dS;rw[e];simp[c8]<;>exact bP rfl
 ·have hne:¬itoa z=[48]:=by
   intro e;have h1:=JH z;have h2:=JH 0;rw[show itoa 0=[48]from dS,<-e,h1]at h2;exact h0 (Option.some.inj h2)
  by_cases hn:z<0
  .have e:itoa z=45::ah z.natAbs:=by unfold itoa;rw[if_pos hn]
   have hix:ixS (S (itoa z)) (.d (.int .i64 0))=some (.d (.int .u8 45)):=by rw[e];rfl
   simp[c8,hne,hix]<;>exact bP (by simp[sgn,h0,hn])
  .have e:itoa z=ah z.natAbs:=by unfold itoa;rw[if_neg hn]
   obtain ⟨c,t,hct⟩:∃c t,ah z.natAbs=c::t:=by
    cases h:ah z.natAbs with
    |nil=>exact absurd h (vz _)
    |cons c t=>exact⟨c,t,rfl⟩
   have hhd:=rG z.natAbs;rw[hct]at hhd;have hix:ixS (S (itoa z)) (.d (.int .i64 0))=some (.d (.int .u8 c.toNat)):=by rw[e,hct];rfl
   have hc:¬(c.toNat:Int)=45:=fun g=>hhd (by apply UInt8.toNat.inj;simpa using(by omega:c.toNat=45))
   simp[c8,hne,hix,hc]<;>exact bP (by simp[sgn,h0,hn])
theorem OH(hz:ndg z.natAbs<1000000)(hw:ndg w.natAbs<1000000):CP Y F.oE [S (itoa z),S (itoa w)] (S (ah (Nat.gcd z.natAbs w.natAbs))):=by
 refine IN ?_;have l1:=Dv z.natAbs;have l2:=Dv w.natAbs;have gg:=OI hz hw;simp[oE];refine cd (yU z) ?_;simp;refine cd (yU w) ?_;simp;by_cases h1:ndg z.natAbs<=18
 .rw[if_pos h1]at l1;refine cd l1 ?_;simp;by_cases h2:ndg w.natAbs<=18
  .rw[if_pos h2]at l2;refine bB ?_;simp;refine cd l2 ?_;have b1:z.natAbs<1000000000000000000:=by have:=de z.natAbs;have:=Z4 (n:=10) af h1;omega
   have b2:w.natAbs<1000000000000000000:=by have:=de w.natAbs;have:=Z4 (n:=10) af h2;omega
   have gi:=YD b1 b2
   have gb:Nat.gcd z.natAbs w.natAbs<9223372036854775808:=by
    rcases Zi w.natAbs with h|h
    .rw[h,Nat.gcd_zero_right];omega
    .have:=Nat.gcd_le_right z.natAbs h;omega
   generalize Nat.gcd z.natAbs w.natAbs=G at *;generalize z.natAbs=a at *;generalize w.natAbs=b at *;simp;refine cd gi ?_;simp;refine cd (My gb) ?_;exact eU rfl
  .rw[if_neg h2]at l2;refine bB ?_;simp;refine cd l2 ?_;simp;refine cd gg ?_;exact eU rfl
 .rw[if_neg h1]at l1;refine cd l1 ?_;simp;refine cd (u:=.mk) gg ?_;exact eU rfl
theorem BF{s:LuQ}(h:rd s=some z):s=itoa z∧ndg z.natAbs<1000000:=by
 have hb:=S5 h;unfold rd at h;split at h
 .exact⟨S6 h,by have:=cQ hb af;omega⟩
 .cases h
theorem Mn(a b:LuQ):(rdF a b).isSome=match rd a,rd b with
  |some n,some d=>decide (0<d∧Nat.gcd n.natAbs d.natAbs=1)
  |_,_=>false:=by
 unfold rdF;cases rd a<;>cases rd b<;>simp
 split<;>simp_all
theorem wu(a b:LuQ)(ha:a.length<1000000000)(hb:b.length<1000000000):CP Y F.eE [.agg [S a,S b]] (I (if(rdF a b).isSome then 0 else 2)):=by
 refine zV ?_;have ca:=GG a ha;have cb:=GG b hb;rw[Mn];simp[eE];refine cd ca ?_;cases hra:rd a with
 | none=>
  simp;refine bB ?_;simp<;>exact bP rfl
 | some z=>
  cases hrb:rd b with
  | none=>
   rw[hrb]at cb;simp;refine bB ?_;simp;refine cd cb ?_;simp<;>exact bP rfl
  | some w=>
   rw[hrb]at cb;obtain⟨ea,na⟩:=BF hra;obtain⟨eb,nb⟩:=BF hrb;subst ea;subst eb;have sg:=oY w;have gg:=OH na nb;simp;refine bB ?_;simp;refine cd cb ?_;simp;refine cd sg ?_;by_cases hw:0<w
   .have hs:¬sgn w<=0:=by unfold sgn;rw[if_neg aa,if_neg aa];decide
    simp[hs];refine bB ?_;simp;refine cd gg ?_;by_cases hg:Nat.gcd z.natAbs w.natAbs=1
    .have e1:ah 1=[49]:=by rw[ah,show ndg 1=1 by unfold ndg;simp];rfl
     rw[show ah (Nat.gcd z.natAbs w.natAbs)=[49] by rw[hg,e1]];simp<;>exact bP (by simp[hw];exact hg)
    ·have e1:¬ah (Nat.gcd z.natAbs w.natAbs)=[49]:=by
      intro e;have:=congrArg (fi 0) e;rw[dU]at this;exact hg this
     simp[e1]<;>exact bP (by simp[hw,hg])
   .have hs:sgn w<=0:=by unfold sgn;split;decide;rw[if_pos aa];decide
    simp[hs];refine bB ?_;simp[hs]<;>exact bP (by simp[hw])
def N5(n:Nat):Nat->Nat->Bool
 |0,_=>true
 |k+1,d=>if n%d=0 then false else N5 n k (d+1)
def xj(n:Int):Bool:=decide (2<=n)&&decide (n<=97)&&N5 n.toNat (n.toNat-2) 2
def ve(s:LuQ):Bool:=decide ((rdT s).length<=30)
abbrev Tx:=LuQ×LuQ
def aV(x:Tx):LdQ:=[.str x.1,.str x.2]
theorem ba(x:Tx):(aV x).length=2:=rfl
def RZ(n:Nat):Nat->Nat->Bool
 |0,_=>true
 |r+1,d=>if d*d<=n then(if n%d=0 then false else RZ n r (d+1))else true
theorem abg:∀n:Fin 98,2<=n.val->RZ n.val 10 2=xj n.val:=aF
theorem NJ(n:Nat)(hn:n<=97)(k:KL):∀(r d:Nat),2<=d->d+r=12->(RZ n r d=true->k (.exit 0) [] [])->(RZ n r d=false->k .ret [B false] []) ->
  lp (iQ (CX Y) (I n)) [] [] [I d] [] k
 | 0,d,hd,hr,h0,h1=>by
  have:d=12:=aa;subst this;have g:¬((12:Nat):Int)*((12:Nat):Int)<=(n:Int):=aa;have g2:¬(144:Int)<=(n:Int):=aa;refine ai ?_;simp[iQ,g,g2];exact h0 rfl
 | r+1,d,hd,hr,h0,h1=>by
  have ih:=NJ n hn k r (d+1) aa aa;have hd12:d<=12:=aa;obtain⟨s,hs⟩:=mnQ (d*d);have hsb:s<=144:=by rw[<-hs];exact Za hd12 hd12
  have e1:(d:Int)*(d:Int)=(s:Int):=by rw[<-hs];simp
  rw[RZ,hs]at h0 h1;refine ai ?_;by_cases g:s<=n
  .have g':(s:Int)<=(n:Int):=aa;rw[if_pos g]at h0 h1;have hd0:¬((d:Int)=0):=aa;have hd0':¬(d=0):=aa;obtain⟨m,hm⟩:=mnQ (n%d);have e2:(n:Int)%(d:Int)=(m:Int):=by rw[<-hm];simp
   rw[hm]at h0 h1;by_cases h:m=0
   .have h':(m:Int)=0:=aa;rw[if_pos h]at h1;simp(disch:=try exact ac)[iQ,e1,g',hd0,hd0',Zw,e2,h',h];exact h1 rfl
   .have h':¬(m:Int)=0:=aa;rw[if_neg h]at h0 h1;have:=ih h0 h1;simp(disch:=try exact ac)[iQ,e1,g',hd0,hd0',Zw,e2,h',h];simpa using this
  .have g':¬(s:Int)<=(n:Int):=aa;rw[if_neg g]at h0;simp(disch:=try exact ac)[iQ,e1,g'];exact h0 rfl
theorem KA(n:Int):CP Y F.iJ [I n] (B (xj n)):=by
 refine A3 ?_;by_cases h1:n<2
 .simp[iJ,h1]<;>exact cx (by simp[xj];omega)
 by_cases h2:97<n
 .simp[iJ,h1,h2]<;>exact cx (by simp[xj];omega)
 obtain⟨m,rfl⟩:∃m:Nat,n=m:=⟨n.toNat,aa⟩;have ha:=abg ⟨m,aa⟩ aG;simp only at ha;simp[iJ,h1,h2];refine lo (NJ m aa _ 10 2 aa rfl (fun e=>?_) (fun e=>?_))
 .simp only[kz];exact cx (by rw[<-ha,e])
 .simp only[yF,BY];exact cx (by rw[<-ha,e])
def Mr(prev:Option Int)(x:Int):Bool:=match prev with|some y=>decide (y<x)|none=>true
def Db:Option Int->LiQ->Int
 |_,[]=>0
 |prev,x::q=>cond (xj x) (cond (Mr prev x) (Db (some x) q) 6) 25
theorem N7(k:KL):∀(q a:LiQ),(a++q).length<1000000000->(Db a.getLast? q=0->k (.exit 1) [] [])->(Db a.getLast? q≠0->k .ret [I (Db a.getLast? q)] []) ->
  lp (o5 (CX Y) (lst di (a++q)) (lst di (a++q)) (I (a++q).length)) [] [] [I a.length] [] k
 | []=>by
  intro a hN h0 h1;refine ai ?_;simp[o5];exact h0 rfl
 | x::q=>by
  intro a hN h0 h1;simp at hN;have ih:=N7 k q (a++[x]) aG;rw[List.getLast?_concat]at ih;refine ai ?_;simp(disch:=try exact ac)[o5];refine cd (KA x) ?_;by_cases hp:xj x=true
  .rcases List.eq_nil_or_concat a with rfl|⟨b,y,rfl⟩
   .simp only[Db,hp,List.getLast?_nil,Mr,cond_true]at h0 h1;simp[hp];have:=ih h0 h1;simpa using this
   .rw[List.concat_eq_append]at *;have hny:nth 0 (b++[y]++x::q) b.length=y:=by rw[List.append_assoc];simp
    rw[List.getLast?_concat]at h0 h1;simp only[Db,hp,Mr,cond_true]at h0 h1;have eI:∀h:Hp,ixV h 1 (lst di (b++[y]++x::q)) (.d (.int .i64 (b.length:Int)))=some (.dptr ((b++[y]++x::q).map di) b.length):=fun h=>t8 di _ h rfl ae
    have eL:∀h:Hp,ld1 h (.dptr ((b++[y]++x::q).map di) b.length)=some (.d (di y)):=fun h=>by
     have:=Ui (b++[y]++x::q) h (j:=b.length) ae;rw[hny]at this;exact this
    have hA:b++[y]++[x]++q=b++[y]++x::q:=ae;have hn:(b++[y]).length=b.length+1:=ae;have hn2:(b++[y]++[x]).length=b.length+1+1:=ae;rw[hA,hn2]at ih;rw[hn]at hN ⊢;generalize b++[y]++x::q=A at *;generalize b.length=m at *;have e':((m+1:Nat):Int)-1=(m:Int):=aa;have hl0:(0:Int)<((m+1:Nat):Int):=aa;obtain⟨m1,hm1⟩:=nmQ (m+1);rw[<-hm1]at e' hl0 ih ⊢
    by_cases hyx:y<x
    .have g1:¬x<=y:=aa;rw[show decide (y<x)=true by simpa using hyx]at h0 h1;simp only[cond_true]at h0 h1;have:=ih h0 h1;simp(disch:=try exact ac)[hp,e',hl0,eI,eL,g1];simpa using this
    .have g1:x<=y:=aa;rw[show decide (y<x)=false by simpa using hyx]at h1;simp only[cond_false]at h1;simp(disch:=try exact ac)[hp,e',hl0,eI,eL,g1];simpa using h1
  .have hpf:xj x=false:=by simpa using hp
   simp only[Db,hpf,cond_false]at h1;simp[hpf];simpa using h1
def pcB(p:LiQ):Int:=if p.length=0 then 13 else if 6<p.length then 4 else Db none p
theorem lT(hN:p.length<1000000000):CP Y F.eT [lst di p] (I (pcB p)):=by
 refine EW ?_;have lp':aW (lst di p)=some (I p.length):=rfl;by_cases h1:(p.length:Int)=0
 .have e:pcB p=13:=by unfold pcB;exact if_pos aa
  have hnil:p=[]:=Xx.1 aa;rw[e];subst hnil;simp[eT]<;>exact bP rfl
 have h1':¬p.length=0:=aa;have hne:¬p=[]:=fun e=>h1' (by rw[e];rfl)
 by_cases h2:(6:Int)<p.length
 .have e:pcB p=4:=by unfold pcB;exact(if_neg h1').trans (if_pos aa)
  rw[e];simp[eT,lp',h1,h2,hne]<;>exact bP rfl
 have e:pcB p=Db none p:=by unfold pcB;exact(if_neg h1').trans (if_neg aa)
 unfold eT;rw[e]
 have main:=N7 (exK [((.exit 1),fun l6 h=>out (I (Db none p)) (.d (.int .i64 0)) h),(.ret,fun l6 h=>out (I (Db none p)) (ge l6 0) h)]) p [] (by simpa using hN) (fun g=>by
  simp only[List.getLast?_nil]at g;simp only[kz];exact bP g.symm) (fun g=>by
  simp only[List.getLast?_nil]at g ⊢;simp only[yF,BY];exact bP rfl)
 simp[lp',h1,h2,hne];exact main
theorem GD(ha:ndg a<1000000)(hb:ndg b<1000000):CP Y F.jM [S (ah a),S (ah b)] (S (ah (a*b))):=by
 refine Fi ?_;have la:=lV a;have lb:=lV b;have bo:=B7 a b;by_cases h18:(ndg a:Int)+(ndg b:Int)<=18
 .rw[if_pos ⟨aa,aa⟩]at bo
  have hm:a*b<1000000000000000000:=by
   have h1:=de a;have h2:=de b;have h3:a*b<10^ndg a*10^ndg b:=Yl h1 h2;rw[<-Yq]at h3;have h4:10^(ndg a+ndg b)<=10^18:=Z4 af aa;exact Z3 h3 h4
  obtain⟨m,hmm⟩:=mnQ (a*b);have e1:(a:Int)*(b:Int)=(m:Int):=by rw[<-hmm];simp
  rw[hmm]at hm ⊢;simp(disch:=try exact ac)[jM,la,lb,h18];refine cd bo ?_;simp(disch:=try exact ac)[e1];refine cd (zD (n:=m) aa) ?_;exact eU rfl
 .obtain⟨ca,hca⟩:=nmQ (ndg a/9+1);obtain⟨cb,hcb⟩:=nmQ (ndg b/9+1);have ltA:a<Z^ca:=Z3 (de a) (by rw[yV];exact Z4 af aa);have ltB:b<Z^cb:=Z3 (de b) (by rw[yV];exact Z4 af aa)
  have cA:=sN (h:=[nnQ,nnQ,nnQ]) rfl (n:=a) aa hca;have lA:(bC ca a).length=ca:=dp ..;have lB:(bC cb b).length=cb:=dp ..;have cB:=sN (h:=[(1,.data 1 ((bC ca a).map u6) true false),nnQ,nnQ]) rfl (n:=b) aa hcb;simp(disch:=try exact ac)[jM,la,lb,h18];refine lE (gA (e:=0) (b:=.none) cA rfl ?_)
  rw[List.length_map,lA];simp;refine lE (gA (e:=0) (b:=.none) cB rfl ?_);rw[List.length_map,lB];simp;have rA:=Cb (h:=[(1,.data 1 ((bC ca a).map u6) true false),(1,.data 1 ((bC cb b).map u6) true false),nnQ]) (s:=0) (e:=1) (len:=(dig Z a).length) (cap:=ca) (ex:=true) (fr:=false) rfl lA.symm (iC ltA)
  have rB:=Cb (h:=[(1,.data 1 ((bC ca a).map u6) true false),(1,.data 1 ((bC cb b).map u6) true false),nnQ]) (s:=1) (e:=1) (len:=(dig Z b).length) (cap:=cb) (ex:=true) (fr:=false) rfl lB.symm (iC ltB);rw[nK ltA]at rA;rw[nK ltB]at rB;have dA:=iC ltA;have dB:=iC ltB;obtain⟨N,hN⟩:=nmQ ((dig Z a).length+(dig Z b).length)
  have tp:=zg (h:=[(1,.data 1 ((bC ca a).map u6) true false),(1,.data 1 ((bC cb b).map u6) true false),nnQ]) rfl rA (cI ay a) rB (cI ay b) aa aa hN
  have ltM:a*b<Z^N:=by
   rw[hN,Yq];have h1:=js bI (cI ay a);have h2:=js bI (cI ay b);rw[ir ay]at h1 h2;exact Yl h1 h2
  rw[ir ay,ir ay]at tp;have lM:(bC N (a*b)).length=N:=dp ..;refine lE (gA (e:=0) (b:=.none) tp rfl ?_);rw[List.length_map,lM];simp
  have sM:=u9 (h:=[(1,.data 1 ((bC ca a).map u6) true false),(1,.data 1 ((bC cb b).map u6) true false),(1,.data 1 ((bC N (a*b)).map u6) true false)]) (s:=2) rfl lM.symm (len:=(dig Z (a*b)).length) (cap:=N) (iC ltM) (Z7 _);rw[nK ltM]at sM;simp only[List.set_cons_zero,List.set_cons_succ]at sM
  have sMs:aA [(1,.data 1 ((bC ca a).map u6) true false),(1,.data 1 ((bC cb b).map u6) true false),(1,.data 1 ((bC N (a*b)).map u6) true false)] [.ref 2 1 0 (dig Z (a*b)).length N N]=some ([pcs (a*b)],[(1,.data 1 ((bC ca a).map u6) true false),(1,.data 1 ((bC cb b).map u6) true false),(1,.data 1 ((bC N (a*b)).map u6) true true)]):=by
   simp only[aA,sM];rfl
  refine cdz sMs (vQ (n:=a*b) (by have:=iC ltM;omega)) ?_;rw[show dD (S (ah (a*b)))=true from rfl,if_pos rfl];exact eU rfl
theorem qS{B:Nat}{a b:LnQ}(ha:aK B a)(hb:aK B b):aK B (a++b):=by
 intro x hx;rcases Xm.1 hx with h|h
 .exact ha x h
 .exact hb x h
theorem pI(k:Nat):aK Z (List.replicate k 0):=by intro x hx;rw[List.eq_of_mem_replicate hx];exact bI
theorem tM(k:Nat)(l:LnQ):val Z (l++List.replicate k 0)=val Z l:=by
 rw[val_append]
 have:val Z (List.replicate k 0)=0:=by
  induction k with
  |zero=>rfl
  |succ k ih=>rw[List.replicate_succ];exact(congrArg (fun x=>0+Z*x) ih).trans (by rw[Nat.mul_zero])
 rw[this,Nat.mul_zero,Nat.add_zero]
theorem acg{q ce x B:Nat}(hB:2<=B)(h3:x+q*B*ce=a+b)(l1:a<q)(l2:b<q):x=a+b:=by
 rcases Zi ce with h|h
 .subst h;rw[Nat.mul_zero,Nat.add_zero]at h3;exact h3
 .have h1:=Zx (q*B) h;have h2:=Zx q hB;omega
theorem VF{D:LnQ}(hA:A.length=n)(hD:D.length=n)(sA:aK Z A)(sD:aK Z D)(va:val Z A=a)(vb:val Z D=b):
  val Z (qx 0 D (D.length+1) 0 0 (A++[0]))=a+b∧aK Z (qx 0 D (D.length+1) 0 0 (A++[0]))∧(qx 0 D (D.length+1) 0 0 (A++[0])).length=n+1:=by
 have sA0:aK Z (A++[0]):=qS sA (pI 1);obtain⟨h1,h2,ce,h3⟩:=EA (at_:=0) sD (D.length+1) 0 0 (A++[0]) aG aa sA0;have e1:D.drop (0+(D.length+1))=[]:=Zd aa;have e2:val Z (A++[0])=a:=by rw[show([0]:LnQ)=List.replicate 1 0 from rfl,tM,va]
 have e0:val Z ([]:LnQ)=0:=rfl;rw[e1,e2,e0]at h3;have l1:=js bI sA;have l2:=js bI sD;rw[va,hA]at l1;rw[vb,hD]at l2;have hl:(qx 0 D (D.length+1) 0 0 (A++[0])).length=n+1:=by rw[h1.1];simp[hA]
 refine⟨?_,h2,hl⟩;rw[hD]at h3 ⊢;have h2Z:=ay;generalize val Z (qx 0 D (n+1) 0 0 (A++[0]))=x at *;simp only[Yo,vb,Nat.add_zero,Zk,Nat.pow_zero,Ww,Nat.pow_succ]at h3;exact acg h2Z h3 l1 l2
theorem WH(k:Nat):jm k [D.int .u64 0]=(List.replicate k 0).map u6:=by
 induction k with
 |zero=>rfl
 |succ k ih=>rw[List.replicate_succ,Z1,<-ih];rfl
theorem ML(a w:Nat)(hw:w<=18):CP Y F.bL [S (ah a),I w] (if ndg a<=w then .tup [I a,B true]else .tup [I 0,B false]):=by
 refine qW ?_;have la:=lV a;by_cases h:(w:Int)<ndg a
 .rw[if_neg aa];simp[bL,la,h];exact bN rfl rfl
 .rw[if_pos aa];have ap:=Iw (n:=a) (kX a) aa (de a);have en:biF .eql (.d (.pl .nilIface)) (.d (.pl .nilIface))=some (.d (.bool true)):=rfl;simp[bL,la,h];refine cd (args:=[S (ah a)]) ap ?_;simp[en];exact bN rfl rfl
theorem qR(a:Nat):CP Y F.aU [S (ah a)] (.tup [B false,S (ah a)]):=by have h:=u7 (ah a);have e1:rdN (ah a)=false:=decide_eq_false (rG a);have e2:rdT (ah a)=ah a:=if_neg (rG a);rw[e1,e2]at h;exact h
theorem Us(s:LuQ):CP Y F.b9 [B false,S s] (S s):=by refine xJ ?_;simp[b9]<;>exact eU rfl
theorem VI{w:Nat}(h1:1<=w)(h2:w<=17)(hn:n<10^w):CP Y F.gE [S (45::dJ n w)] (.tup [I (-(n:Int)),.d (.pl .nilIface)]):=by
 refine tz ?_;have hl:=Ek w n;have hlt:=B3 w n;have hh:=DL w n hn;have he:=U3 n w;have hD:=If w n;have hn17:n<10^17:=Z3 hn (Z4 af h2);simp only[Nat.reducePow]at hn17;generalize dJ n w=L at *;generalize Ai n w=l at *;have hlen:L.length=w:=by rw[hD];simpa using hl
 have hi:ixS (S (45::L)) (.d (.int .i64 0))=some (.d (.int .u8 45)):=by simp[ixS]
 have hlw:ju (S (45::L))=some (I (w+1:Nat)):=by rw[HU];simp[hlen]
 have hsl:slS (S (45::L)) (some (.d (.int .i64 1))) none=some (S L):=by
  have:(1:Int)<=(L.length:Int)+1:=aa;simp[slS,boV,this]
 have hl2:ju (S L)=some (I w):=by rw[HU,hlen]
 simp(disch:=try exact ac)[gE,hlw,hi]
 have hcv:∀(k:kkQ),cvB (S L) [] k=k (lst f8 l) []:=by
  intro k
  have:V.d (.sl L.length (L.map fun b=>.int .u8 b.toNat))=lst f8 l:=by
   unfold lst;rw[hlen,hl,<-he];rfl
  simp only[cvB,this]
 refine gv (l:=[S L]) (h:=[]) (fun q=>?_) ?_
 .simp(disch:=try exact ac)[hsl,hl2]
 show cvB (S L) [] _
 rw[hcv];simp;refine lo (Ix _ _ rfl l [] 0 aG hlt ae ?_);simp[hi,hh];refine gv (l:=[I (-(n:Int))]) (h:=[]) (fun q=>?_) ?_
 .simp(disch:=try exact ac)[hh]
 exact⟨[],by simp[bg,aA,norm]⟩
theorem VH{w:Nat}(h1:1<=w)(h2:w<=17)(hn:n<10^w):CP Y F.strconv_Atoi [S (45::dJ n w)] (.tup [I (-(n:Int)),.d (.pl .nilIface)]):=by refine u5 ?_;simp[strconv_Atoi];refine cd (VI h1 h2 hn) ?_;simp[HB];exact⟨[],by simp[bg,aA,norm]⟩
def sdg(z:Int):Nat:=ndg z.natAbs+if z<0 then 1 else 0
theorem Km(z:Int):ju (S (itoa z))=some (I (sdg z)):=by
 rw[HU];unfold itoa sdg;split
 .simp[ah,bu]
 .simp[ah,bu]
theorem Lq(h:sdg z<=18):CP Y F.strconv_Atoi [S (itoa z)] (.tup [I z,.d (.pl .nilIface)]):=by
 unfold sdg at h;by_cases hz:z<0
 .rw[if_pos hz]at h;have:=VH (n:=z.natAbs) (w:=ndg z.natAbs) (kX _) aa (de _);rw[show(-(z.natAbs:Int))=z by omega]at this;unfold itoa;rw[if_pos hz];exact this
 .rw[if_neg hz]at h;have:=Iw (n:=z.natAbs) (w:=ndg z.natAbs) (kX _) aa (de _);rw[show((z.natAbs:Nat):Int)=z by omega]at this;unfold itoa;rw[if_neg hz];exact this
theorem oA(z:Int)(w:Nat)(hw:w<=18):CP Y F.bL [S (itoa z),I w] (if sdg z<=w then .tup [I z,B true]else .tup [I 0,B false]):=by
 refine qW ?_;have la:=Km z;by_cases h:(w:Int)<sdg z
 .rw[if_neg aa];simp[bL,la,h];exact bN rfl rfl
 .rw[if_pos aa];have ap:=Lq (z:=z) aa;have en:biF .eql (.d (.pl .nilIface)) (.d (.pl .nilIface))=some (.d (.bool true)):=rfl;simp[bL,la,h];refine cd (args:=[S (itoa z)]) ap ?_;simp[en];exact bN rfl rfl
theorem Dw(z:Int):CP Y F.fL [S (itoa z)] (if sdg z<=9 then .tup [I z,B true]else .tup [I 0,B false]):=by
 refine yw ?_;have la:=Km z;by_cases h:(9:Int)<sdg z
 .rw[if_neg aa];simp[fL,la,h];exact bN rfl rfl
 .rw[if_pos aa];have ap:=Lq (z:=z) aa;have en:biF .eql (.d (.pl .nilIface)) (.d (.pl .nilIface))=some (.d (.bool true)):=rfl;simp[fL,la,h];refine cd (args:=[S (itoa z)]) ap ?_;simp[en];exact bN rfl rfl
theorem yq(z:Int):rdN (itoa z)=decide (z<0):=by
 unfold itoa;split
 .rename_i h;simp[rdN,h]
 .rename_i h;have:=rG z.natAbs;unfold rdN;rw[decide_eq_false this,decide_eq_false h]
theorem oI(z:Int):CP Y F.aU [S (itoa z)] (.tup [B (decide (z<0)),S (ah z.natAbs)]):=by have h:=u7 (itoa z);rw[yq,tw]at h;exact h
theorem pR(h:ah a=ah b):a=b:=by
 have:=congrArg (fi 0) h
 rwa [dU,dU]at this
theorem vy{a b:Int}(h:itoa a=itoa b):a=b:=by
 have h1:=congrArg rdT h;have h2:=congrArg rdN h;rw[tw,tw]at h1;rw[yq,yq]at h2;have h3:=pR h1;have h4:(a<0)↔(b<0):=by simpa using h2
 omega
theorem jR:ah n=[48]↔n=0:=by
 constructor
 .intro h;exact pR (a:=n) (b:=0) (h.trans dS.symm)
 .rintro rfl;exact dS
def sg(b:Bool)(n:Nat):Int:=if b then -(n:Int)else n
theorem gD(b:Bool)(hn9:ndg n<1000000):CP Y F.b9 [B b,S (ah n)] (S (itoa (sg b n))):=by
 refine xJ ?_;cases b with
 | false=>
  have:itoa (sg false n)=ah n:=by simp[sg,itoa]
  rw[this];simp[b9]<;>exact eU rfl
 | true=>
  by_cases hn:n=0
  .subst hn;have e0:itoa (sg true 0)=[48]:=dS;simp[b9,dS]<;>exact eU e0.symm
  .have h0:¬ah n=[48]:=fun h=>hn (jR.1 h)
   have:itoa (sg true n)=45::ah n:=by
    unfold itoa sg;rw[if_pos rfl,if_pos aa];simp
   rw[this];have hl:(ah n).length=ndg n:=bu _ _;have ha:biS .add (.d (.str [45])) (S (ah n))=some (S (45::ah n)):=ZN [45] (ah n) (by rw[hl];simp;omega);simp[b9,h0,ha]<;>exact eU rfl
theorem yg(hz:ndg z.natAbs<1000000):CP Y F.lN [S (itoa z)] (S (itoa (-z))):=by
 refine IK ?_;simp[lN];refine cd (oI z) ?_;simp;have:=gD (!decide (z<0)) hz
 have e:sg (!decide (z<0)) z.natAbs = -z:=by
  unfold sg;by_cases h:z<0
  .simp[h];omega
  .simp[h];omega
 rw[e]at this;refine cd this ?_;exact eU rfl
def ci(n:Nat):Nat:=(dig Z n).length
theorem B4:ci n=ndg n/9+1∨ci n+1=ndg n/9+1:=by
 unfold ci;have h1:(dig Z n).length<=ndg n/9+1:=(pj ay).2 (Z3 (de n) (by rw[yV];exact Z4 af aa))
 have h2:ndg n<=9*(dig Z n).length∨n=0:=by
  rcases Zi n with h|h
  .omega
  .left;have h3:n<Z^(dig Z n).length:=(pj ay).1 (Z7 _);rw[yV]at h3;refine cQ h3 ?_;rcases Zi (dig Z n).length with h4|h4
   .grind
   .omega
 rcases h2 with h2|rfl
 .omega
 .have:ndg 0=1:=aF;omega
theorem HN(n:Nat):n<Z^ci n:=(pj ay).1 (Z7 _)
theorem yy(n:Nat):bC (ci n) n=dig Z n:=by
 have:=nK (HN n)
 rwa [Zz (by rw[dp];exact Z7 _)]at this
theorem yx{c:Nat}(h:ci n+1=c):bC c n=dig Z n++[0]:=by rw[<-h,zX (HN n),yy]
theorem Pi{s t n c:Nat}{h:Hp}{q:kkQ}{u:PU q}(hst:s≠t)(hg:h[s]?=some (1,.data 1 ((bC c n).map u6) true false))(ht:h[t]?=some nnQ)(hL:ci n=c∨ci n+1=c)(hc:c<1000000)
  (hq:∀s' e' ex h',h'.length=h.length->h'[s']?=some (e',.data 1 ((dig Z n++[0]).map u6) ex false)->(s'=s∨s'=t)->(∀j,j≠s'->h'[j]?=h[j]?)->q (.ref s' e' 0 (ci n+1) (ci n+1) (ci n+1)) h') :
  rh (apV false t 1 8 (.ref s 1 0 (ci n) c c) (.d (.sl 1 [u6 0])) h) q u:=by
 have hl:=bp hg;have hl2:=bp ht;rcases hL with hL|hL
 .subst hL;rw[yy]at hg;refine Ph hg ht rfl aa ?_;exact hq t 1 false _ ae (by grind) (.inr rfl) (fun j hj=>by rw[List.getElem?_set_ne (Ne.symm hj)])
 .rw[yx hL]at hg;have hlen:(dig Z n).length=ci n:=rfl;refine Nn (x:=0) hg (by grind) aa ?_;rw[<-hL];refine hq s 1 true _ ae ?_ (.inl rfl) (fun j hj=>by rw[List.getElem?_set_ne (Ne.symm hj)])
  have e1:(dig Z n++[0]).take (ci n)++[0]++(dig Z n++[0]).drop (ci n+1)=dig Z n++[0]:=by
   rw[<-hlen,Wu,Zd ae,Zo]
  grind
theorem Pg{s t n c k:Nat}{h:Hp}{q:kkQ}{u:PU q}(hst:s≠t)(hg:h[s]?=some (1,.data 1 ((bC c n).map u6) true false))(ht:h[t]?=some nnQ)(hL:ci n=c∨ci n+1=c)(hc:c+k<1000000)
  (hq:∀t1 s' h',h'.length=h.length->(s'=s∨s'=t)->(∀j,j≠s'->h'[j]?=h[j]?)->(∃(e':Nat)(l:LnQ)(ex:Bool),h'[s']?=some (e',.data 1 (l.map u6) ex false)) ->
   (∀P:Hp->Prop,(∀g,P g->g[s']?=h'[s']?)->RdS P t1 (dig Z n++List.replicate k 0))->q t1 h') :
  rh (apZ false t 1 8 [.int .u64 0] (.ref s 1 0 (ci n) c c) (I (k:Nat)) h) q u:=by
 have hl:=bp hg;have hl2:=bp ht;have hlen:(dig Z n).length=ci n:=rfl;unfold rh apZ;simp only;rw[if_pos ⟨aa,aa⟩];unfold apC;simp only[Int.toNat_natCast]
 have rdOf:∀{s' e' len cap tot:Nat}{l:LnQ}{ex:Bool}{h':Hp},h'[s']?=some (e',.data 1 (l.map u6) ex false)->tot=l.length->len<=tot->l.take len=dig Z n++List.replicate k 0 ->
   ∀P:Hp->Prop,(∀g,P g->g[s']?=h'[s']?)->RdS P (.ref s' e' 0 len cap tot) (dig Z n++List.replicate k 0):=by
  intro s' e' len cap tot l ex h' hg' htot hle htk P hP;refine⟨?_,fun g i hg2 hi=>?_⟩
  .have:(dig Z n++List.replicate k 0).length=len:=by rw[<-htk,Zt];omega
   simp_all
  .have:=(Cb (h:=g) (cap:=cap) ((hP g hg2).trans hg') htot hle).2 [] i (by grind)
   grind
 by_cases hk:k=0
 .rw[if_pos hk,if_pos aa];subst hk;refine hq _ s h rfl (.inl rfl) (fun _ _=>rfl) ⟨_,_,_,hg⟩ ?_;refine rdOf hg (dp ..).symm aa ?_;rw[List.replicate_zero,Zo];rcases hL with hL|hL
  .rw[<-hL,yy,<-hlen,Xt]
  .rw[yx hL,<-hlen,Wu]
 .rw[if_neg hk,WH];simp only[dI hg];rw[if_pos ⟨trivial,by simp[dp],aa,by simp[dp],ae⟩];by_cases hin:ci n+k<=c
  .rw[if_pos hin];have hk1:k=1:=aa;subst hk1;have hL2:ci n+1=c:=aa;simp only[Bool.or_self,Zf,if_false,cw]
   have e1:((bC c n).map u6).take (0+ci n*1)++(List.replicate 1 0).map u6++((bC c n).map u6).drop (0+(ci n+1)*1)=(dig Z n++[0]).map u6:=by
    rw[yx hL2,Zk,Zk,Yj,Yj,<-hlen];simp[<-List.map_take,<-List.map_drop]
   rw[e1];refine hq _ s _ ae (.inl rfl) (fun j hj=>by rw[List.getElem?_set_ne (Ne.symm hj)]) ⟨1,dig Z n++[0],true,by grind⟩ ?_;refine rdOf (l:=dig Z n++[0]) (ex:=true) (by grind) (by grind) aa ?_
   grind
  .rw[if_neg hin,if_pos aa];simp only[if_true,new,ht]
   have e1:(((bC c n).map u6).drop 0).take (ci n*1)++(List.replicate k 0).map u6=(dig Z n++List.replicate k 0).map u6:=by
    rw[Yo,Yj,<-List.map_take,List.map_append];congr 2;rcases hL with hL|hL
    .rw[<-hL,yy,<-hlen,Xt]
    .rw[yx hL,<-hlen,Wu]
   rw[e1];have e2:ci n*1+((List.replicate k 0).map u6).length=ci n+k:=ae;rw[e2];refine hq _ t _ ae (.inr rfl) (fun j hj=>by rw[List.getElem?_set_ne (Ne.symm hj)]) ⟨1,dig Z n++List.replicate k 0,false,by grind⟩ ?_;refine rdOf (l:=dig Z n++List.replicate k 0) (ex:=false) (by grind) (by grind) aa ?_
   grind[Zz]
def NV(h:Hp):Prop:=∀(j:Nat)(x:Nat×Bk),h[j]?=some x->∀b,aN b x.2=true
theorem NV.all{h:Hp}(hn:NV h)(b:Nat):(h.all fun x=>aN b x.2)=true:=by rw[Z2];intro x hx;obtain⟨j,hj⟩:=W0.1 hx;exact hn j x hj b
theorem NV.upd{h':Hp}(hn:NV h)(hs:h'[s]?=some (e,.data 1 (l.map u6) ex fr))(ho:∀j,j≠s->h'[j]?=h[j]?):NV h':=by
 intro j x hj b;by_cases e1:j=s
 .subst e1;rw[hs]at hj;cases hj;rfl
 .rw[ho j e1]at hj;exact hn j x hj b
theorem set_same{α:Type}{l:List α}{x:α}(h:l[i]?=some x):l.set i x=l:=by
 apply Yh;intro j;by_cases e:i=j
 .grind
 .rw[List.getElem?_set_ne e]
theorem NM(hs:h[s]?=some (e,.data 1 (l.map u6) ex false)):sP h s e ex l=h:=set_same hs
theorem FP{h:Hp}{s e n m:Nat}{ex:Bool}{L:LnQ}{w:V}(hn:NV h)(hlt:s<h.length)(h3:L.length=n)(b1:val Z L=m)(b2:aK Z L)(hm:n<1000000)(kk:V->V)(hkk:∀h':Hp,out w (kk (S (ah m))) h'){sl:Nat} :
  cai (CX Y).i (sP h s e ex L) (V.fn F.aD [] []) [.ref s e 0 n n n] sl fun v22 h=>
    cal (CX Y).p h (V.fn F.aT [] []) [v22] fun v23 h=>out w (kk v23) h:=by
 have nv:NV (sP h s e ex L):=hn.upd (rC hlt) (fun j hj=>by grind[sP]);have tr:=sY (h:=sP h s e ex L) (nv.all _) (s:=s) (e:=e) (ex:=ex) (fr:=false) (rC hlt) h3.symm (len:=n) (cap:=n) (Z7 _) aa (Z7 _);have ht:io (L.take n)=dig Z m:=by rw[Zz aa,<-b1,qK ay b2]
 rw[ht]at tr;refine ik tr ?_ ae;have lt:m<Z^n:=by rw[<-b1,<-h3];exact js bI b2
 have hl:(dig Z m).length<=n:=(pj ay).2 lt;have sM:=u9 (h:=sP h s e ex L) (s:=s) (e:=e) (ex:=ex) (fr:=false) (rC hlt) h3.symm (len:=(dig Z m).length) (cap:=n) hl (Z7 _)
 have ht2:L.take (dig Z m).length=dig Z m:=by
  have e:io L=dig Z m:=by rw[<-ht,Zz aa]
  obtain⟨z,hz⟩:=FH L;rw[e]at hz;rw[hz];exact Wu ..
 rw[ht2]at sM;refine cdz (u:=.mk) (by simp only[aA,sM];rfl) (vQ (n:=m) aa) ?_
 grind
theorem xB(ha:ndg a<1000000)(hb:ndg b<1000000):CP Y F.fM [S (ah a),S (ah b)] (S (ah (a+b))):=by
 refine Fp ?_;have bo:=B7 a b;by_cases h18:ndg a<=18∧ndg b<=18
 .rw[if_pos h18]at bo;have g3:10^ndg a<=10^18:=Z4 af h18.1;have g4:10^ndg b<=10^18:=Z4 af h18.2;have b1:a<1000000000000000000:=Z3 (de a) g3;have b2:b<1000000000000000000:=Z3 (de b) g4;simp[fM];refine cd bo ?_;obtain⟨m,hm⟩:=mnQ (a+b);have em:(a:Int)+(b:Int)=(m:Int):=aa
  rw[hm];simp(disch:=try exact ac)[em];refine cd (zD (n:=m) aa) ?_;exact eU rfl
 rw[if_neg h18]at bo;obtain⟨ca,hca⟩:=nmQ (ndg a/9+1);obtain⟨cb,hcb⟩:=nmQ (ndg b/9+1);have cA:=sN (h:=[nnQ,nnQ,nnQ,nnQ,nnQ,nnQ]) rfl (n:=a) aa hca;have cB:=sN (h:=[(1,.data 1 ((bC ca a).map u6) true false),nnQ,nnQ,nnQ,nnQ,nnQ]) rfl (n:=b) aa hcb
 have LA:ci a=ca∨ci a+1=ca:=by rw[hca];exact B4
 have LB:ci b=cb∨ci b+1=cb:=by rw[hcb];exact B4
 have hli:∀h:Hp,fO 1 [D.int .u64 0] [(0,V.d (D.int .u64 0))] h=some ([u6 0],h):=fun h=>by rfl
 have main:∀(p q cp cq sp sq:Nat)(h:Hp),p+q=a+b->ci q<=ci p->cp<200000->cq<200000->(ci p=cp∨ci p+1=cp)->(ci q=cq∨ci q+1=cq)->sp<2->sq<2->sp≠sq->h.length=6->NV h ->
   h[sp]?=some (1,.data 1 ((bC cp p).map u6) true false)->h[sq]?=some (1,.data 1 ((bC cq q).map u6) true false)->h[2]?=some nnQ->h[3]?=some nnQ ->
   apV false 2 1 8 (.ref sp 1 0 (ci p) cp cp) (.d (.sl 1 [u6 0])) h fun v15 h=>
   bnd (aW v15) fun v16=>
   bnd (biI .sub v16 (.d (.int .i64 1))) fun v17=>
   bnd (aW (.ref sq 1 0 (ci q) cq cq)) fun v18=>
   bnd (biI .sub v17 v18) fun v19=>
   apZ false 3 1 8 [.int .u64 0] (.ref sq 1 0 (ci q) cq cq) v19 h fun v20 h=>
   cai (CX Y).i h (.fn F.cN [] []) [v15,v20,(.d (.int .i64 0))] 4 fun v21 h=>
   cai (CX Y).i h (.fn F.aD [] []) [v15] 5 fun v22 h=>
   cal (CX Y).p h (.fn F.aT [] []) [v22] fun v23 h=>
   out (S (ah (a+b))) v23 h:=by
  intro p q cp cq sp sq h hpq hle hcp hcq LP LQ hsp hsq hne hlen hnv gp gq g2 g3;refine Pi (u:=.mk) (t:=2) aa gp g2 LP aa fun s' e' ex h1 l1 gs' hs' o1=>?_
  obtain⟨k,hk⟩:=nmQ (ci p-ci q);have e1:(ci p:Int)+1-1-(ci q:Int)=(k:Int):=aa;have hr1:aW (.ref s' e' 0 (ci p+1) (ci p+1) (ci p+1))=some (I (ci p+1:Nat)):=rfl;have hr2:aW (.ref sq 1 0 (ci q) cq cq)=some (I (ci q:Nat)):=rfl
  have hb1:biI .sub (I ((ci p+1:Nat):Int)) (.d (.int .i64 1))=some (I (ci p)):=by
   rw[ww,show(((ci p+1:Nat):Int)-1)=(ci p:Int) by omega,sS aa aa]
  have hb2:biI .sub (I (ci p:Int)) (I (ci q:Int))=some (I k):=by
   rw[ww,show((ci p:Int)-(ci q:Int))=(k:Int) by omega,sS aa aa]
  simp only[hr1,hr2,hb1,hb2,bnd];have nv1:=hnv.upd gs' o1;have hqs:sq≠s':=by rcases hs' with rfl|rfl<;>omega
  have h3s:3≠s':=by rcases hs' with rfl|rfl<;>omega
  refine Pg (u:=.mk) (t:=3) aa ((o1 sq hqs).trans gq) ((o1 3 h3s).trans g3) LQ aa fun t1 s2 h2 l2 hs2 o2 ⟨e2,l2',ex2,g2'⟩ rd=>?_
  have nv2:=nv1.upd g2' o2;have hss:s'≠s2:=by rcases hs2 with rfl|rfl<;>omega
  have gs2:h2[s']?=some (e',.data 1 ((dig Z p++[0]).map u6) ex false):=(o2 s' hss).trans gs';have lt2:s'<h2.length:=bp gs2;have hdl:(dig Z q++List.replicate k 0).length=ci p:=by simp only[List.length_append,Zb];show ci q+k=_;omega
  have sD:aK Z (dig Z q++List.replicate k 0):=qS (cI ay q) (pI _);have vD:val Z (dig Z q++List.replicate k 0)=q:=by rw[tM,ir ay]
  have rdS:=rd (fun t=>∃l,t=sP h2 s' e' ex l) (fun g ⟨l,hg⟩=>by grind[sP]);obtain⟨c1,c2,c3⟩:=VF (n:=ci p) rfl hdl (cI ay p) sD (ir ay p) vD;have bk:=Lo (at_:=0) (tot:=ci p+1) (l:=dig Z p++[0]) (ex:=ex) (e:=e') (s:=s') (h:=h2) (nv2.all _) lt2 rdS sD aa aa (by simp[ci]) (qS (cI ay p) (pI 1))
  rw[NM gs2]at bk;refine ik bk ?_ ae;rw[hpq]at c1;exact FP nv2 lt2 c3 c1 c2 aa (fun v=>v) (fun _=>eU rfl)
 simp[fM];refine cd bo ?_;simp;refine lE (gA (e:=0) (b:=.none) cA rfl ?_);rw[List.length_map,dp];simp;refine lE (gA (e:=0) (b:=.none) cB rfl ?_);rw[List.length_map,dp]
 have nv:NV [(1,.data 1 ((bC ca a).map u6) true false),(1,.data 1 ((bC cb b).map u6) true false),nnQ,nnQ,nnQ,nnQ]:=by
  intro j x hj b';rcases W0.2 ⟨j,hj⟩with hm;simp only[Zs,Ym,or_false]at hm;rcases hm with rfl|rfl|rfl|rfl|rfl|rfl<;>rfl
 by_cases g1:((dig Z a).length:Int)<((dig Z b).length:Int)
 .simp[g1];refine bB ?_;simp[hli];exact main b a cb ca 1 0 _ aa (by grind[ci]) aa aa LB LA aa aa aa rfl nv rfl rfl rfl rfl
 .simp[g1];refine bB ?_;simp[hli];exact main a b ca cb 0 1 _ rfl (by grind[ci]) aa aa LA LB aa aa aa rfl nv rfl rfl rfl rfl
theorem Gr:∀(s t:LuQ)(c:Nat),s.length=t.length->s.all pT=true->t.all pT=true->Op.bytesLess s t=decide (fi c s<fi c t)
 |[],[],c,_,_,_=>by simp[Op.bytesLess]
 | x::s,y::t,c,hl,hs,ht=>by
  simp only[List.length_cons,Nat.add_right_cancel_iff]at hl;simp only[List.all_cons,Z8]at hs ht;have hx:=lJ.1 hs.1;have hy:=lJ.1 ht.1
  have key:∀(s t:LuQ)(u v:Nat),s.length=t.length->s.all pT=true->u<v->fi u s<fi v t:=by
   intro s t u v hl hs h;have h1:=tA s u hs;have h2:=DN t v;rw[<-hl]at h2;have h3:(u+1)*10^s.length<=v*10^s.length:=Zy _ h;omega
  rw[jU,jU];have ex:x<y↔x.toNat<y.toNat:=UInt8.lt_iff_toNat_lt;have ey:y<x↔y.toNat<x.toNat:=UInt8.lt_iff_toNat_lt;rcases Nat.lt_trichotomy x.toNat y.toNat with h|h|h
  .have:=key s t (c*10+(x.toNat-48)) (c*10+(y.toNat-48)) hl hs.2 aa
   grind[Op.bytesLess]
  .have e:x=y:=UInt8.toNat_inj.1 h;subst e;rw[<-Gr s t _ hl hs.2 ht.2];simp[Op.bytesLess]
  .have:=key t s (c*10+(y.toNat-48)) (c*10+(x.toNat-48)) hl.symm ht.2 aa;rw[decide_eq_false aa]
   grind[Op.bytesLess]
theorem Gw(n:Nat):(ah n).all pT=true:=vE _ _
theorem Gp(h:ndg a=ndg b):Op.bytesLess (ah a) (ah b)=decide (a<b):=by rw[Gr (ah a) (ah b) 0 (by rw[ah,ah,bu,bu,h]) (Gw _) (Gw _),dU,dU]
theorem TF(h:ndg a<ndg b):a<b:=by
 rcases Zl a b with g|g
 .exact g
 .have:=cJ g;omega
theorem Et(h:a<b):Big.cmp a b = -1:=if_pos h
theorem Eu(h:b<a):Big.cmp a b=1:=(if_neg aa).trans (if_pos h)
theorem cmp_eq:Big.cmp a a=0:=(if_neg aa).trans (if_neg aa)
theorem wt(ha:ndg a<1000000)(hb:ndg b<1000000):CP Y F.cC [S (ah a),S (ah b)] (I (Big.cmp a b)):=by
 refine yJ ?_;have la:=lV a;have lb:=lV b;by_cases hl:ndg a=ndg b
 .have h1:=Gp hl;have h2:=Gp hl.symm;have e1:biS .lss (S (ah a)) (S (ah b))=some (.d (.bool (decide (a<b)))):=by rw[<-h1];rfl
  have e2:biS .gtr (S (ah a)) (S (ah b))=some (.d (.bool (decide (b<a)))):=by
   have h3:(ah a == ah b)=decide (a=b):=by
    rw[Yp];simp only[beq_iff_eq,decide_eq_true_eq];exact⟨pR,fun h=>by rw[h]⟩
   have h4:decide (b<a) = !(decide (a<b)||decide (a=b)):=by
    rw[Yp];simp only[decide_eq_true_eq,Y7,Bool.or_eq_false_iff,decide_eq_false_iff_not];omega
   rw[h4,<-h1,<-h3];rfl
  rw[hl]at la;by_cases g1:a<b
  .simp[cC,la,lb,e1,e2,g1]
   grind[bP,Et]
  .by_cases g2:b<a
   .simp[cC,la,lb,e1,e2,g1,g2]
    grind[bP,Eu]
   .simp[cC,la,lb,e1,e2,g1,g2];have:a=b:=aa
    grind[bP,cmp_eq]
 .have hne:¬((ndg a:Int)=(ndg b:Int)):=aa;rcases Zl (ndg a) (ndg b)with h|h
  .have h3:=TF h;have m1:mxI true [.d (.int .i64 (-1)),I ((ndg a:Int)-ndg b)]=some (I (-1)):=by simp[mxI,mx2];omega
   have m2:mxI false [.d (.int .i64 1),I (-1)]=some (I (-1)):=rfl;simp(disch:=try exact ac)[cC,la,lb,hne,m1,m2]
   grind[bP,Et]
  .have h3:b<a:=TF aa;have m1:mxI true [.d (.int .i64 (-1)),I ((ndg a:Int)-ndg b)]=some (I ((ndg a:Int)-ndg b)):=by simp[mxI,mx2];omega
   have m2:mxI false [.d (.int .i64 1),I ((ndg a:Int)-ndg b)]=some (I 1):=by simp[mxI,mx2];omega
   simp(disch:=try exact ac)[cC,la,lb,hne,m1,m2]
   grind[bP,Eu]
theorem JS:1<Z:=ay
theorem RG{D:LnQ}(hA:A.length=n)(hD:D.length=n)(sA:aK Z A)(sD:aK Z D)(va:val Z A=a)(vb:val Z D=b)(hba:b<=a):
  val Z (iH 1 0 D (D.length+1) 0 0 0 (A++[0])).2=a-b∧aK Z (iH 1 0 D (D.length+1) 0 0 0 (A++[0])).2∧(iH 1 0 D (D.length+1) 0 0 0 (A++[0])).2.length=n+1:=by
 have sA0:aK Z (A++[0]):=qS sA (pI 1);have l2:=js bI sD;rw[vb,hD]at l2
 obtain ⟨h1,h2,h3,h4⟩:=Cv (g:=1) (at_:=0) JS sD (D.length+1) 0 0 0 (A++[0]) aG bI (Yr _) sA0 (by
  rw[Yo,vb,hD,Ww,Zk,Nat.pow_succ];exact Z3 l2 (Y8 _ bI))
 have e2:val Z (A++[0])=a:=by rw[show([0]:LnQ)=List.replicate 1 0 from rfl,tM,va]
 have hl:(iH 1 0 D (D.length+1) 0 0 0 (A++[0])).2.length=n+1:=by rw[h1.1];simp[hA]
 refine⟨?_,h2,hl⟩;have h5:=js bI h2;rw[hl]at h5;rw[e2,Yo,vb,hD]at h4;rw[hD]at h3 h5 ⊢;generalize val Z (iH 1 0 D (n+1) 0 0 0 (A++[0])).2=x at *;generalize(iH 1 0 D (n+1) 0 0 0 (A++[0])).1=c at *;simp only[Zk,Nat.add_zero,Nat.pow_zero,Ww]at h4;rcases Zi c with h|h
 .subst h;omega
 .have:c=1:=aa;subst this;rw[Yj]at h4;omega
theorem wq(hba:b<=a)(ha:ndg a<1000000):CP Y F.gF [S (ah a),S (ah b)] (.tup [S (ah (a-b)),I 0]):=by
 have hb:ndg b<1000000:=Zj (cJ hba) ha;refine Ff ?_;have bo:=B7 a b;have dc:=wt ha hb
 have hc:¬Big.cmp a b<0:=by
  unfold Big.cmp;rw[if_neg aa];split<;>omega
 have hc2:(-1:Int)<=Big.cmp a b∧Big.cmp a b<=1:=by
  unfold Big.cmp;split
  .omega
  .split<;>omega
 generalize Big.cmp a b=cc at *;simp[gF];refine cd dc ?_;simp[hc];by_cases h18:ndg a<=18∧ndg b<=18
 .rw[if_pos h18]at bo;have g3:10^ndg a<=10^18:=Z4 af h18.1;have b1:a<1000000000000000000:=Z3 (de a) g3;refine cd bo ?_;obtain⟨m,hm⟩:=mnQ (a-b);have em:(a:Int)-(b:Int)=(m:Int):=aa;rw[hm];simp(disch:=try exact ac)[em];refine cd (zD (n:=m) aa) ?_;exact bN rfl rfl
 rw[if_neg h18]at bo;obtain⟨ca,hca⟩:=nmQ (ndg a/9+1);obtain⟨cb,hcb⟩:=nmQ (ndg b/9+1);have cA:=sN (h:=[nnQ,nnQ,nnQ,nnQ,nnQ,nnQ,nnQ]) rfl (n:=a) aa hca;have LA:ci a=ca∨ci a+1=ca:=by rw[hca];exact B4
 have LB:ci b=cb∨ci b+1=cb:=by rw[hcb];exact B4
 have hle:ci b<=ci a:=(pj ay).2 (Zj hba (HN a));have hli:∀h:Hp,fO 1 [D.int .u64 0] [(0,V.d (D.int .u64 0))] h=some ([u6 0],h):=fun h=>by simp[fO,jm,ly,toD,u6]
 refine cd bo ?_;simp;refine lE (gA (e:=0) (b:=.none) cA rfl ?_);rw[List.length_map,dp];simp[hli]
 have nv:NV [(1,.data 1 ((bC ca a).map u6) true false),nnQ,nnQ,nnQ,nnQ,nnQ,nnQ]:=by
  intro j x hj b';rcases W0.2 ⟨j,hj⟩with hm;simp only[Zs,Ym,or_false]at hm;rcases hm with rfl|rfl|rfl|rfl|rfl|rfl|rfl<;>rfl
 refine Pi (s:=0) (t:=1) (n:=a) (c:=ca) aa rfl rfl LA aa fun s1 e1 ex1 h1 l1 g1 hs1 o1=>?_
 have nv1:=nv.upd g1 o1;have k1:∀j,2<=j->h1[j]?=([(1,.data 1 ((bC ca a).map u6) true false),nnQ,nnQ,nnQ,nnQ,nnQ,nnQ]:Hp)[j]?:=fun j hj=>o1 j aa
 have hr1:aW (.ref s1 e1 0 (ci a+1) (ci a+1) (ci a+1))=some (I (ci a+1:Nat)):=rfl
 have hb1:biI .sub (I ((ci a+1:Nat):Int)) (.d (.int .i64 1))=some (I (ci a)):=by
  rw[ww,show(((ci a+1:Nat):Int)-1)=(ci a:Int) by omega,sS aa aa]
 -- the second number,twice
 have cB:=sN (h:=h1) (nv1.all _) (n:=b) aa hcb;refine lE (u:=.mk) (gA (e:=0) (b:=.none) cB (k1 2 aa) ?_);rw[List.length_map,dp];have l2:(h1.set 2 (1,.data 1 ((bC cb b).map u6) true false)).length=7:=by simp[l1]
 have n2:(2:Nat)<h1.length:=by rw[l1];simp
 have g2:(h1.set 2 (1,.data 1 ((bC cb b).map u6) true false))[2]?=some (1,.data 1 ((bC cb b).map u6) true false):=by simp[n2]
 have o2:∀j,j≠2->(h1.set 2 (1,.data 1 ((bC cb b).map u6) true false))[j]?=h1[j]?:=fun j hj=>by rw[List.getElem?_set_ne (Ne.symm hj)]
 have nv2:=nv1.upd g2 o2;generalize h1.set 2 (1,.data 1 ((bC cb b).map u6) true false)=h2 at *
 show bnd (aW (.ref s1 e1 0 (ci a+1) (ci a+1) (ci a+1))) _
 simp only[hr1,hb1,bnd];have cB2:=sN (h:=h2) (nv2.all _) (n:=b) aa hcb;refine lE (u:=.mk) (gA (e:=0) (b:=.none) cB2 ((o2 3 af).trans (k1 3 aa)) ?_);rw[List.length_map,dp];have n3:(3:Nat)<h2.length:=by rw[l2];simp
 have g3:(h2.set 3 (1,.data 1 ((bC cb b).map u6) true false))[3]?=some (1,.data 1 ((bC cb b).map u6) true false):=by simp[n3]
 have o3:∀j,j≠3->(h2.set 3 (1,.data 1 ((bC cb b).map u6) true false))[j]?=h2[j]?:=fun j hj=>by rw[List.getElem?_set_ne (Ne.symm hj)]
 have nv3:=nv2.upd g3 o3;generalize h2.set 3 (1,.data 1 ((bC cb b).map u6) true false)=h3 at *;obtain⟨k,hk⟩:=nmQ (ci a-ci b);have hr2:aW (.ref 3 (0+1) 0 (ci b) cb cb)=some (I (ci b:Nat)):=rfl
 have hb2:biI .sub (I (ci a:Int)) (I (ci b:Int))=some (I k):=by
  rw[ww,show((ci a:Int)-(ci b:Int))=(k:Int) by omega,sS aa aa]
 simp only[show aW (V.ref 3 (0+1) 0 (dig Z b).length cb cb)=some (I (ci b:Nat))from rfl,hb2];have q2:h3[2]?=some (1,.data 1 ((bC cb b).map u6) true false):=(o3 2 af).trans g2;have q4:h3[4]?=some nnQ:=((o3 4 af).trans (o2 4 af)).trans (k1 4 aa)
 refine Pg (u:=.mk) (s:=2) (t:=4) aa q2 q4 LB aa fun t1 s4 h4 l4 hs4 o4 ⟨e4,l4',ex4,g4⟩ rd=>?_
 have nv4:=nv3.upd g4 o4;have hss:s1≠s4:=by rcases hs1 with rfl|rfl<;>rcases hs4 with rfl|rfl<;>omega
 have h12:s1≠2∧s1≠3:=by rcases hs1 with rfl|rfl<;>omega
 have gs:h4[s1]?=some (e1,.data 1 ((dig Z a++[0]).map u6) ex1 false):=(((o4 s1 hss).trans (o3 s1 h12.2)).trans (o2 s1 h12.1)).trans g1;have lt4:=bp gs;have hdl:(dig Z b++List.replicate k 0).length=ci a:=by simp only[List.length_append,Zb];show ci b+k=_;omega
 have sD:aK Z (dig Z b++List.replicate k 0):=qS (cI ay b) (pI _);have vD:val Z (dig Z b++List.replicate k 0)=b:=by rw[tM,ir ay]
 have rdS:=rd (fun t=>∃l,t=sP h4 s1 e1 ex1 l) (fun g ⟨l,hg⟩=>by rw[hg];unfold sP;rw[List.getElem?_set_ne hss]);obtain⟨c1,c2,c3⟩:=RG (n:=ci a) rfl hdl (cI ay a) sD (ir ay a) vD hba
 have bk:=Jb (g:=1) (at_:=0) (tot:=ci a+1) (l:=dig Z a++[0]) (ex:=ex1) (e:=e1) (s:=s1) (h:=h4) (nv4.all _) lt4 rdS sD JS (by rw[hdl];omega) aa (by simp[ci]) (qS (cI ay a) (pI 1));rw[NM gs]at bk;refine lE (u:=.mk) (ik bk ?_ ae);exact FP nv4 lt4 c3 c1 c2 aa (fun v=>.tup [v,I 0]) (fun _=>bN rfl rfl)
theorem rQ{w:Nat}(h:sdg z<=w):z.natAbs<10^w:=by
 have:ndg z.natAbs<=w:=by unfold sdg at h;omega
 exact Z3 (de _) (Z4 af this)
theorem kr(h1 : -9223372036854775808<z)(h2:z<9223372036854775808):CP Y F.dF [I z] (S (itoa z)):=by refine Ce ?_;simp[dF];refine cd (BU h1 h2) ?_;exact eU rfl
theorem rW(ha:ndg a<=k)(hb:ndg b<=k):ndg (a+b)<=k+1:=by have h1:a<10^k:=Z3 (de a) (Z4 af ha);have h2:b<10^k:=Z3 (de b) (Z4 af hb);exact cQ (by rw[Nat.pow_succ];omega) aa
theorem VN(hz:ndg z.natAbs<999999)(hw:ndg w.natAbs<999999): 
  cal (CX Y).p [] (.fn F.aU [] []) [S (itoa z)] fun v6 h=>
  ext v6 0 fun v7=>
  ext v6 1 fun v8=>
  cal (CX Y).p h (.fn F.aU [] []) [S (itoa w)] fun v9 h=>
  ext v9 0 fun v10=>
  ext v9 1 fun v11=>
  bnd (biB .eql v7 v10) fun v12=>
  cnd v12 (
   cal (CX Y).p h (.fn F.fM [] []) [v8,v11] fun v13 h=>
   cal (CX Y).p h (.fn F.b9 [] []) [v7,v13] fun v14 h=>
   out (S (itoa (z+w))) v14 h) (
   cal (CX Y).p h (.fn F.cC [] []) [v8,v11] fun v15 h=>
   bnd (biI .lss v15 (.d (.int .i64 0))) fun v16=>
   jn (fun l17 h=>
    cal (CX Y).p h (.fn F.gF [] []) [(ge l17 1),(ge l17 2)] fun v19 h=>
    ext v19 0 fun v20=>
    ext v19 1 fun v21=>
    cal (CX Y).p h (.fn F.b9 [] []) [(ge l17 0),v20] fun v22 h=>
    out (S (itoa (z+w))) v22 h) fun q18=>
    cnd v16 (
     q18 [v10,v11,v8] h) (
     q18 [v7,v8,v11] h)):=by
 simp;refine cd (oI z) ?_;simp;refine cd (oI w) ?_;have eb:biB .eql (B (decide (z<0))) (B (decide (w<0)))=some (B (decide (z<0) == decide (w<0))):=rfl;simp[eb];by_cases hs:(z<0↔w<0)
 .simp[hs];refine cd (xB (a:=z.natAbs) (b:=w.natAbs) aa aa) ?_;simp;have hk:ndg (z.natAbs+w.natAbs)<=999999:=rW aa aa;refine cd (gD (decide (z<0)) (n:=z.natAbs+w.natAbs) aa) ?_;refine eU ?_;congr 1;unfold sg;by_cases h:z<0
  .simp[h];omega
  .simp[h];omega
 .simp[hs];refine cd (wt (a:=z.natAbs) (b:=w.natAbs) aa aa) ?_;simp;by_cases hlt:z.natAbs<w.natAbs
  .have hc:Big.cmp z.natAbs w.natAbs<0:=by rw[Et hlt];decide
   refine gv (l:=[B (decide (w<0)),S (ah w.natAbs),S (ah z.natAbs)]) (h:=[]) (fun q=>by simp[hc]) ?_;simp;refine cd (wq (a:=w.natAbs) (b:=z.natAbs) aa aa) ?_;simp;refine cd (gD (decide (w<0)) (n:=w.natAbs-z.natAbs) (Zj (cJ (Nat.sub_le ..)) aa)) ?_;refine eU ?_;congr 1;unfold sg;by_cases h:w<0
   .simp[h];omega
   .simp[h];omega
  ·have hc:¬Big.cmp z.natAbs w.natAbs<0:=by
    rcases Nat.eq_or_lt_of_not_lt hlt with h|h
    .rw[h,cmp_eq];decide
    .rw[Eu h];decide
   refine gv (l:=[B (decide (z<0)),S (ah z.natAbs),S (ah w.natAbs)]) (h:=[]) (fun q=>by simp[hc]) ?_;simp;refine cd (wq (a:=z.natAbs) (b:=w.natAbs) aa aa) ?_;simp;refine cd (gD (decide (z<0)) (n:=z.natAbs-w.natAbs) (Zj (cJ (Nat.sub_le ..)) aa)) ?_;refine eU ?_;congr 1;unfold sg;by_cases h:z<0
   .simp[h];omega
   .simp[h];omega
theorem sV(hz:ndg z.natAbs<999999)(hw:ndg w.natAbs<999999):CP Y F.cO [S (itoa z),S (itoa w)] (S (itoa (z+w))):=by
 refine IP ?_;have l1:=oA z 18 af;have l2:=oA w 18 af;have tl:=VN hz hw;simp[cO];refine cd l1 ?_;by_cases h1:sdg z<=18
 .rw[if_pos h1];simp;by_cases h2:sdg w<=18
  .rw[if_pos h2]at l2;refine bB ?_;simp;refine cd l2 ?_;have b1:=rQ h1;have b2:=rQ h2;simp only[Nat.reducePow]at b1 b2;obtain⟨m,hm⟩:=mnQ (z+w);rw[hm];simp(disch:=try exact ac)[hm];refine cd (kr (z:=m) aa aa) ?_;exact eU rfl
  .rw[if_neg h2]at l2;refine bB ?_;simp;refine cd l2 ?_;simp;simpa using tl
 .rw[if_neg h1];simp;refine bB ?_;simp;simpa using tl
theorem qY(hz:ndg z.natAbs<400000)(hw:ndg w.natAbs<400000):CP Y F.bj [S (itoa z),S (itoa w)] (S (itoa (z*w))):=by
 refine IL ?_;have l1:=oA z 9 af;have l2:=oA w 9 af;have dm:=GD (a:=z.natAbs) (b:=w.natAbs) aa aa
 have hk:ndg (z.natAbs*w.natAbs)<1000000:=by
  have h1:=de z.natAbs;have h2:=de w.natAbs;have h3:z.natAbs*w.natAbs<10^(ndg z.natAbs+ndg w.natAbs):=by rw[Yq];exact Yl h1 h2
  have:=cQ h3 (by have:=kX z.natAbs;omega);omega
 have e:sg (decide (z<0) !=decide (w<0)) (z.natAbs*w.natAbs)=z*w:=by
  unfold sg;by_cases h1:z<0<;>by_cases h2:w<0
  .simp[h1,h2];rw[Xr aa,Xr aa,Int.neg_mul_neg]
  .simp[h1,h2];rw[Xr aa,Wt aa,Int.neg_mul,Wi]
  .simp[h1,h2];rw[Wt aa,Xr aa,Int.mul_neg,Wi]
  .simp[h1,h2];rw[Wt aa,Wt aa]
 have eb:biB .neq (B (decide (z<0))) (B (decide (w<0)))=some (B (decide (z<0) !=decide (w<0))):=rfl;have jo:=gD (decide (z<0) !=decide (w<0)) hk;rw[e]at jo
 have tail:∀u:Unit,cal (CX Y).p [] (.fn F.aU [] []) [S (itoa z)] fun v6 h=>
  ext v6 0 fun v7=>
  ext v6 1 fun v8=>
  cal (CX Y).p h (.fn F.aU [] []) [S (itoa w)] fun v9 h=>
  ext v9 0 fun v10=>
  ext v9 1 fun v11=>
  bnd (biB .neq v7 v10) fun v12=>
  cal (CX Y).p h (.fn F.jM [] []) [v8,v11] fun v13 h=>
  cal (CX Y).p h (.fn F.b9 [] []) [v12,v13] fun v14 h=>
  out (S (itoa (z*w))) v14 h:=by
  intro _;simp;refine cd (oI z) ?_;simp;refine cd (oI w) ?_;simp[eb];refine cd dm ?_;simp;refine cd jo ?_;exact eU rfl
 simp[bj];refine cd l1 ?_;by_cases h1:sdg z<=9
 .rw[if_pos h1];simp;by_cases h2:sdg w<=9
  .rw[if_pos h2]at l2;refine bB ?_;simp;refine cd l2 ?_;have b1:=rQ h1;have b2:=rQ h2
   have hmb:(z*w).natAbs<1000000000000000000:=by
    rw[Y2];exact Yl b1 b2
   obtain⟨m,hm⟩:=mnQ (z*w);rw[hm]at hmb ⊢;simp(disch:=try exact ac)[hm];refine cd (kr (z:=m) aa aa) ?_;exact eU rfl
  .rw[if_neg h2]at l2;refine bB ?_;simp;refine cd l2 ?_;simp;simpa using tail ()
 .rw[if_neg h1];simp;refine bB ?_;simp;simpa using tail ()
theorem kv(n:Nat):itoa (n:Int)=ah n:=by rfl
theorem Wc(n:Nat):sgn (n:Int)=if n=0 then 0 else 1:=by
 unfold sgn;by_cases h:n=0
 .simp[h]
 .rw[if_neg aa,if_neg aa,if_neg h]
theorem Jr(n:Nat):CP Y F.c8 [S (ah n)] (I (if n=0 then 0 else 1)):=by
 have:=oY (n:Int)
 grind[kv,Wc]
theorem Ch(ha:ndg a<1000000)(hb:ndg b<1000000):CP Y F.iF [S (ah a),S (ah b)] (I (Big.cmp a b)):=by
 refine AW ?_;have s1:=Jr a;have s2:=Jr b;simp[iF];by_cases h1:a=0
 .rw[if_pos h1]at s1;by_cases h2:b=0
  .rw[if_pos h2]at s2;refine cd s1 ?_;simp;refine cd s2 ?_;simp;refine cd (qR a) ?_;simp;refine cd (qR b) ?_;simp;refine gv (l:=[S (ah a),S (ah b)]) (h:=[]) (fun q=>by simp) ?_;simp;refine cd (wt ha hb) ?_;simp
  .rw[if_neg h2]at s2;refine cd s1 ?_;simp;refine cd s2 ?_;simp;exact bP (Et aa).symm
 .rw[if_neg h1]at s1;by_cases h2:b=0
  .rw[if_pos h2]at s2;refine cd s1 ?_;simp;refine cd s2 ?_;simp;exact bP (Eu aa).symm
  .rw[if_neg h2]at s2;refine cd s1 ?_;simp;refine cd s2 ?_;simp;refine cd (qR a) ?_;simp;refine cd (qR b) ?_;simp;refine gv (l:=[S (ah a),S (ah b)]) (h:=[]) (fun q=>by simp) ?_;simp;refine cd (wt ha hb) ?_;simp
theorem uj(hb:0<b):(-(a:Int))/(b:Int)=(if a%b=0 then -((a/b:Nat):Int)else -((a/b+1:Nat):Int))∧(-(a:Int))%(b:Int)=(if a%b=0 then 0 else((b-a%b:Nat):Int)):=by
 have h1:=X5 a b;have h2:=Y1 a hb;have hbz:(b:Int)>0:=aa;generalize a%b=r at *;generalize a/b=q at *;by_cases h:r=0
 .subst h;simp only[if_true]
  have e:(-(a:Int))=(b:Int)*(-(q:Int)):=by
   rw[Int.mul_neg,<-Int.natCast_mul];congr 1;omega
  rw[e];exact⟨Int.mul_ediv_cancel_left _ aa,Int.mul_emod_right _ _⟩
 .simp only[if_neg h]
  have e:(-(a:Int))=((b-r:Nat):Int)+(b:Int)*(-((q+1:Nat):Int)):=by
   have:(a:Int)=(b:Int)*q+r:=by rw[<-Int.natCast_mul];omega
   rw[this,Int.mul_neg,Int.natCast_add,Int.mul_add];have:((b-r:Nat):Int)=(b:Int)-r:=aa;omega
  have l1:(0:Int)<=((b-r:Nat):Int):=aa;have l2:((b-r:Nat):Int)<(b:Int):=aa;rw[e];constructor
  .rw[Int.add_mul_ediv_left _ _ aa,Int.ediv_eq_zero_of_lt l1 l2,Xa]
  .rw[Int.add_mul_emod_self_left,Int.emod_eq_of_lt l1 l2]
theorem tX:ndg 1=1:=aF
theorem og{a b a' b':LuQ}(e1:a'=a)(e2:b'=b):out (.tup [S a,S b,I c]) (.tup [S a',S b',I c]) h:=by simp_all[jE]
theorem YR(hb:0<b)(hz:ndg z.natAbs<900000)(hbd:ndg b<900000):
   cal (CX Y).p [] (.fn F.aU [] []) [S (itoa z)] fun v7 h=>
   ext v7 0 fun v8=>
   ext v7 1 fun v9=>
   cal (CX Y).p h (.fn F.aU [] []) [S (ah b)] fun v10 h=>
   ext v10 0 fun v11=>
   ext v10 1 fun v12=>
   cal (CX Y).p h (.fn F.dV [] []) [v9,v12] fun v13 h=>
   ext v13 0 fun v14=>
   ext v13 1 fun v15=>
   ext v13 2 fun v16=>
   bnd (biI .neq v16 (.d (.int .i64 0))) fun v17=>
   cnd v17 (
    out (.tup [S (itoa (z/b)),S (itoa (z%b)),I 0]) (.tup [(.d (.str [])),(.d (.str [])),v16]) h) (
    bnd (biB .neq v8 v11) fun v18=>
    gd v18 true h (fun q=>q v15 h) fun v19 h=>
    gd v18 true h (fun q=>bnd (biS .neq v19 (.d (.str [48]))) fun v=>q v h) fun v20 h=>
    bnd (oM v18 v20 (.d (.bool false))) fun v21=>
    jn (fun l22 h=>
     bnd (biB .neq v8 v11) fun v24=>
     cal (CX Y).p h (.fn F.b9 [] []) [v24,(ge l22 0)] fun v25 h=>
     cal (CX Y).p h (.fn F.b9 [] []) [v11,(ge l22 1)] fun v26 h=>
     out (.tup [S (itoa (z/b)),S (itoa (z%b)),I 0]) (.tup [v25,v26,(.d (.int .i64 0))]) h) fun q23=>
     cnd v21 (
      cal (CX Y).p h (.fn F.fM [] []) [v14,(.d (.str [49]))] fun v27 h=>
      cal (CX Y).p h (.fn F.gF [] []) [v12,v15] fun v28 h=>
      ext v28 0 fun v29=>
      ext v28 1 fun v30=>
      q23 [v27,v29] h) (
      q23 [v14,v15] h)):=by
 have hq:ndg (z.natAbs/b)<=ndg z.natAbs:=cJ (Yt ..);have hr:z.natAbs%b<b:=Y1 _ hb;have hr2:ndg (z.natAbs%b)<=ndg b:=cJ aa
 have eb:biB .neq (B (decide (z<0))) (B false)=some (B (decide (z<0))):=by
  show some (B (decide (z<0) !=false))=_
  rw[Bool.bne_false]
 simp;refine cd (oI z) ?_;simp;refine cd (qR b) ?_;simp;refine cd (wn (a:=z.natAbs) hb aa aa) ?_;by_cases hneg:z<0
 .have ez:z = -(z.natAbs:Int):=aa;obtain⟨d1,d2⟩:=uj (a:=z.natAbs) hb;rw[<-ez]at d1 d2;rw[decide_eq_true hneg]at eb ⊢;by_cases h0:z.natAbs%b=0
  .rw[if_pos h0]at d1 d2;rw[h0,dS];simp[eb];refine gv (l:=[S (ah (z.natAbs/b)),S [48]]) (h:=[]) (fun q=>by simp) ?_;simp[eb];refine cd (gD true (n:=z.natAbs/b) aa) ?_;simp;have j0:=gD false (n:=0) (by grind);rw[dS]at j0;refine cd j0 ?_;refine og ?_ ?_
   .rw[d1];rfl
   .rw[d2];rfl
  .rw[if_neg h0]at d1 d2;have h48:¬ah (z.natAbs%b)=[48]:=fun h=>h0 (jR.1 h)
   have ad:=xB (a:=z.natAbs/b) (b:=1) aa (by simp[tX]);rw[show ah 1=[49] by decide+kernel]at ad;simp[eb,h48];refine bB ?_;simp[h48];refine cd ad ?_;simp;refine cd (wq (a:=b) (b:=z.natAbs%b) aa aa) ?_;simp[eb];have hq1:ndg (z.natAbs/b+1)<=900000+1:=rW aa (by simp[tX])
   refine cd (gD true (n:=z.natAbs/b+1) aa) ?_;simp;refine cd (gD false (n:=b-z.natAbs%b) (Zj (cJ (Nat.sub_le ..)) aa)) ?_;refine og ?_ ?_
   .rw[d1];rfl
   .rw[d2];rfl
 .rw[decide_eq_false hneg]at eb ⊢;simp[eb];refine gv (l:=[S (ah (z.natAbs/b)),S (ah (z.natAbs%b))]) (h:=[]) (fun q=>by simp) ?_;simp[eb];refine cd (gD false (n:=z.natAbs/b) aa) ?_;simp;refine cd (gD false (n:=z.natAbs%b) aa) ?_;have ez:z=(z.natAbs:Int):=aa;refine og ?_ ?_
  .rw[ez,<-Int.natCast_ediv];rfl
  .rw[ez,<-Int.natCast_emod];rfl
theorem w7(hb:0<b)(hz:ndg z.natAbs<900000)(hbd:ndg b<900000):CP Y F.bc [S (itoa z),S (ah b)] (.tup [S (itoa (z/b)),S (itoa (z%b)),I 0]):=by
 refine uU ?_;have l1:=oA z 18 af;have l2:=ML b 18 af;have tl:=YR hb hz hbd;have h48:¬ah b=[48]:=fun h=>by grind[jR]
 simp[bc,h48];refine cd l1 ?_;by_cases h1:sdg z<=18
 .rw[if_pos h1];by_cases h2:ndg b<=18
  .rw[if_pos h2]at l2;simp;refine bB ?_;simp;refine cd l2 ?_;have b1:=rQ h1;have b2:b<10^18:=Z3 (de b) (Z4 af h2);simp only[Nat.reducePow]at b1 b2;have hbz:¬(b:Int)=0:=aa;obtain⟨n,hn⟩:=nmQ (z.natAbs);rw[<-hn]at b1;have hq:n/b<=n:=Yt ..;have hr:n%b<b:=Y1 _ hb;by_cases hneg:z<0
   .have ez:z = -(n:Int):=aa;obtain⟨d1,d2⟩:=uj (a:=n) hb;rw[<-ez]at d1 d2;have q1:z.tdiv (b:Int) = -((n/b:Nat):Int):=by rw[ez,Int.neg_tdiv,Zv aa,<-Int.natCast_ediv]
    have q2:z.tmod (b:Int) = -((n%b:Nat):Int):=by rw[ez,Int.neg_tmod,Zw aa,<-Int.natCast_emod]
    obtain⟨q,hqq⟩:=nmQ (n/b);obtain⟨r,hrr⟩:=nmQ (n%b);rw[<-hqq]at q1 d1 hq;rw[<-hrr]at q2 d1 d2 hr;by_cases h0:r=0
    .rw[if_pos h0]at d1 d2;rw[h0]at q2;simp(disch:=try exact ac)[q1,q2];refine gv (l:=[I (-(q:Int)),I 0]) (h:=[]) (fun q=>by simp) ?_;simp;refine cd (kr (z:=-(q:Int)) aa aa) ?_;simp;refine cd (kr (z:=0) aa aa) ?_;refine og ?_ ?_
     .rw[d1]
     .rw[d2]
    .rw[if_neg h0]at d1 d2;have r0:¬(-(r:Int))=0:=aa;have r1:(-(r:Int))<0:=aa;have r2:¬(b:Int)<0:=aa;have eb:∀x y:Bool,biB .neq (B x) (B y)=some (B (x !=y)):=fun _ _=>rfl
     simp(disch:=try exact ac)[q1,q2,r0,r1,r2,eb];refine gv (l:=[I (-(q:Int)-1),I (-(r:Int)+b)]) (h:=[]) (fun q=>by simp(disch:=try exact ac)[r0,r1,r2]) ?_;simp;refine cd (kr (z:=-(q:Int)-1) aa aa) ?_;simp;refine cd (kr (z:=-(r:Int)+b) aa aa) ?_
     grind[og]
   .have ez:z=(n:Int):=aa;have q1:z.tdiv (b:Int)=((n/b:Nat):Int):=by rw[ez,Zv aa,<-Int.natCast_ediv]
    have q2:z.tmod (b:Int)=((n%b:Nat):Int):=by rw[ez,Zw aa,<-Int.natCast_emod]
    have d1:z/(b:Int)=((n/b:Nat):Int):=by rw[ez,<-Int.natCast_ediv]
    have d2:z%(b:Int)=((n%b:Nat):Int):=by rw[ez,<-Int.natCast_emod]
    obtain⟨q,hqq⟩:=nmQ (n/b);obtain⟨r,hrr⟩:=nmQ (n%b);rw[<-hqq]at q1 d1 hq;rw[<-hrr]at q2 d2 hr;have r1:¬((r:Int))<0:=aa;have r2:¬(b:Int)<0:=aa;have eb:∀x y:Bool,biB .neq (B x) (B y)=some (B (x !=y)):=fun _ _=>rfl
    have fin:∀h:Hp,cal (CX Y).p h (V.fn F.dF [] []) [I q] fun v45 h=>
      cal (CX Y).p h (V.fn F.dF [] []) [I r] fun v46 h=>out (V.tup [S (itoa (z/(b:Int))),S (itoa (z%(b:Int))),I 0]) (V.tup [v45,v46,V.d (D.int IntKind.i64 0)]) h:=by
     intro h;simp;refine cd (kr (z:=q) aa aa) ?_;simp;refine cd (kr (z:=r) aa aa) ?_;refine og ?_ ?_
     .rw[d1]
     .rw[d2]
    by_cases h0:r=0
    .rw[h0]at q2 fin;simp(disch:=try exact ac)[q1,q2];refine gv (l:=[I q,I 0]) (h:=[]) (fun q=>by simp) ?_;exact fin []
    .have r0:¬(r:Int)=0:=aa;simp(disch:=try exact ac)[q1,q2,r0,r1,r2,eb];refine gv (l:=[I q,I r]) (h:=[]) (fun q=>by simp[r0,r1,r2]) ?_;exact fin []
  .rw[if_neg h2]at l2;simp;refine bB ?_;simp;refine cd l2 ?_;simp;trivial
 .rw[if_neg h1];simp;refine bB ?_;simp;trivial
theorem QU(ha0:0<a)(hb0:0<b)(ha:ndg a<400000)(hb:ndg b<400000):CP Y F.oO [S (ah a),S (ah b)] (S (ah (Nat.lcm a b))):=by
 refine Fj ?_;have h1:¬ah a=[48]:=fun h=>by have:=jR.1 h;omega
 have h2:¬ah b=[48]:=fun h=>by have:=jR.1 h;omega
 have hg:0<Nat.gcd a b:=Nat.gcd_pos_of_pos_left _ ha0;have hgl:Nat.gcd a b<=a:=Nat.gcd_le_left _ ha0;have hq:ndg (a/Nat.gcd a b)<=ndg a:=cJ (Yt ..);simp[oO,h1,h2];refine cd (OI aa aa) ?_;simp;refine cd (wn (a:=a) (b:=Nat.gcd a b) hg aa (by have:=cJ hgl;omega)) ?_;simp
 refine cd (GD (a:=a/Nat.gcd a b) (b:=b) aa aa) ?_;refine eU ?_;congr 1;rw[Nat.lcm,Zr,<-Nat.mul_div_assoc _ (Ws a b),Zr]
theorem IA(n:Nat):CP Y F.eQ [S (ah n)] (S (ah n)):=by
 have:=yU (n:Int)
 rwa [kv,Int.natAbs_natCast]at this
theorem VV(ha0:0<a)(hb0:0<b)(ha:ndg a<400000)(hb:ndg b<400000):CP Y F.pE [S (ah a),S (ah b)] (S (ah (Nat.lcm a b))):=by refine IM ?_;simp[pE];refine cd (IA a) ?_;simp;refine cd (IA b) ?_;simp;refine cd (QU ha0 hb0 ha hb) ?_;exact eU rfl
theorem Qe(h:z.natAbs<9223372036854775808):CP Y F.eS [S (itoa z),I 10,I 64] (.tup [I z,.d (.pl .nilIface)]):=by
 have key:∀n:Nat,n<9223372036854775808->(ah n)≠[]∧(ah n).all oC=true∧(ah n).length<=1000∧pB 0 (ah n)=n:=by
  intro n hn;have hd:=dU n;have hc:=rI n
  have hl:(ah n).length<=1000:=by
   have:=cQ (n:=n) (d:=19) aa af;rw[ah,bu];omega
  simp only[qj,Z8]at hc
  have hall:(ah n).all oC=true:=by
   rw[<-hc.1.2];congr 1;funext c;exact digit_eq c
  exact⟨vz n,hall,hl,by rw[wl,hd]⟩
 have ho:Y.X.orc F.eS [.string ⟨⟨itoa z⟩⟩,.int .i64 10,.int .i64 64]=some (.tuple #[.int .i64 z,.nilIface]):=by
  have e:∀a,Y.X.orc F.eS a=N6 a:=fun a=>rfl
  rw[e];obtain⟨k1,k2,k3,k4⟩:=key _ h;unfold N6;simp only;rw[if_pos ⟨trivial,trivial⟩];by_cases hz:z<0
  .have e1:itoa z=45::ah z.natAbs:=by unfold itoa;rw[if_pos hz]
   rw[e1];simp only;rw[if_pos ⟨k1,k2,k3,by rw[k4];exact h⟩,k4,show(-((z.natAbs:Nat):Int))=z by omega]
  .have e1:itoa z=ah z.natAbs:=by unfold itoa;rw[if_neg hz]
   rw[e1];have hh:=rG z.natAbs;have ez:((z.natAbs:Nat):Int)=z:=aa;generalize ah z.natAbs=L at *
   have fin:(if L≠[]∧L.all oC=true∧L.length<=1000∧pB 0 L<9223372036854775808 then some (Value.tuple #[.int .i64 (pB 0 L),.nilIface])else none)=some (Value.tuple #[.int .i64 z,.nilIface]):=by
    rw[if_pos ⟨k1,k2,k3,by rw[k4];exact h⟩,k4,ez]
   split
   .rename_i l hl;exact absurd rfl hh
   .exact fin
 exact CP.orc ho (by intro x hx;simp only[Zs,Ym,or_false]at hx;rcases hx with rfl|rfl|rfl<;>rfl) rfl
theorem zp(h:z.natAbs<9223372036854775808):CP Y F.kI [S (itoa z)] (.tup [I z,B true]):=by refine EI ?_;simp[kI];refine cd (Qe h) ?_;simp[HB];exact bN rfl rfl
def RdN(s:Nat)(h:Hp)(v:V)(d:LnQ):Prop:=∀h':Hp,h'.length=h.length->(∀j,j≠s->h'[j]?=h[j]?)->RdP h' v d∧∃h2,bg h' v=some (lst u6 d,h2)
theorem RdN.now{v:V}{d:LnQ}(r:RdN s h v d):RdP h v d:=(r h rfl fun _ _=>rfl).1
theorem RdN.step{h2:Hp}{v:V}{d:LnQ}(r:RdN s h v d)(hl:h2.length=h.length)(hs:∀j,j≠s->h2[j]?=h[j]?):RdN s h2 v d:=
 fun h' h1 h3=>r h' (h1.trans hl) fun j hj=>(h3 j hj).trans (hs j hj)
theorem RdN.new{s t e N m:Nat}{h:Hp}(hst:s≠t)(hg:h[t]?=some (e,.data 1 ((bC N m).map u6) true false))(hm:m<Z^N):RdN s h (.ref t e 0 (dig Z m).length N N) (dig Z m):=fun h' hl ho=>by
 have:=Cb (h:=h') (cap:=N) ((ho t (Ne.symm hst)).trans hg) (dp ..).symm (iC hm);rw[nK hm]at this;have sn:=u9 (h:=h') ((ho t (Ne.symm hst)).trans hg) (dp ..).symm (len:=(dig Z m).length) (cap:=N) (iC hm) (Z7 _);rw[nK hm]at sn;exact⟨this,_,sn⟩
theorem and_one{n:Int}(h0:0<=n)(h1:n<9223372036854775808):biI .and (I n) (I 1)=some (I (n%2)):=by
 obtain⟨m,rfl⟩:∃m:Nat,n=m:=⟨n.toNat,aa⟩
 have hb:(BitVec.ofInt 64 (m:Int)&&&BitVec.ofInt 64 1).toNat=m%2:=by
  rw[BitVec.toNat_and]
  have e1:(BitVec.ofInt 64 (m:Int)).toNat=m:=by
   rw[BitVec.toNat_ofInt];omega
  have e2:(BitVec.ofInt 64 (1:Int)).toNat=1:=af;rw[e1,e2,Nat.and_one_is_mod]
 simp only[biI,ig,ne_eq,not_true_eq_false,if_false,mY,iR]
 show some (V.d (.int .i64 (IntKind.wrap .i64 ((BitVec.ofInt 64 (m:Int)&&&BitVec.ofInt 64 1).toNat:Int))))=_
 rw[hb,sS aa aa];rfl
theorem Tm(k:KL):∀(n A Bv:Nat)(o p:V)(h:Hp)(R:Nat),A*Bv^n=R->0<A->0<Bv->R<Z^2000->n<100000->h.length=3->NV h->RdN 2 h o (dig Z A)->RdN 1 h p (dig Z Bv) ->
  (∀o' h' h2,h'.length=3->bg h' o'=some (lst u6 (dig Z R),h2)->NV h'->k (.exit 1) [o'] h')->∀h0:Hp,h0.length=3->lp (kD (CX Y)) [] h0 [o,p,I n] h k:=by
 intro n
 induction n using Nat.strongRecOn with
 | ind n ih=>
  intro A Bv o p h R hR hA hB hlim hn hlen hnv ro rp hk h0 hl0;refine ai ?_;by_cases hz:n=0
  .subst hz;simp[kD];rw[Nat.pow_zero,Yj]at hR;subst hR;obtain⟨h2,hs2⟩:=(ro h rfl fun _ _=>rfl).2;exact hk o h h2 hlen hs2 hnv
  have hpos:(n:Int)>0:=aa
  have hBR:Bv<=R:=by
   rw[<-hR];exact Zu (Nat.le_of_eq (Nat.pow_one Bv).symm) (Zu (Z4 hB aa) (Nat.le_mul_of_pos_left _ hA))
  have hAR:A<=R:=by rw[<-hR];exact Y8 _ (X6 hB)
  have dA:(dig Z A).length<=2000:=iC aa;have dB:(dig Z Bv).length<=2000:=iC aa;have and1:=and_one (n:=(n:Int)) aa aa;have e2:((n:Int)/2^(1:Int).toNat)=((n/2:Nat):Int):=ae
  have sh:biI .shr (I n) (.d (.int .u64 1))=some (I (n/2:Nat)):=by
   rw[Wa aa aa,e2]
  have hn2:n/2<n:=aa
  -- what a product gives
  have times:∀(h:Hp)(v w:V)(a b s:Nat),h.length=3->NV h->s<3->RdP h v (dig Z a)->RdP h w (dig Z b)->(dig Z a).length<=2000->(dig Z b).length<=2000->∀q:kkQ,
    (∀o' h',h'.length=3->NV h'->(∀j,j≠s->h'[j]?=h[j]?)->(∀t,t≠s->RdN t h' o' (dig Z (a*b)))->q o' h')->cai (CX Y).i h (V.fn F.bF [] []) [v,w] s q:=by
   intro h v w a b s hl hv hs r1 r2 d1 d2 q hq;obtain⟨N,hN⟩:=nmQ ((dig Z a).length+(dig Z b).length);have tk:=zg (h:=h) (hv.all _) r1 (cI ay a) r2 (cI ay b) aa aa hN;rw[ir ay,ir ay]at tk;have hs3:s<h.length:=aa;have hm:a*b<Z^N:=by rw[hN,Yq];exact Yl (vt a) (vt b)
   refine gA (e:=h[s].1) (b:=h[s].2) tk (List.getElem?_eq_getElem hs3) ?_;rw[List.length_map,dp];have gs:(h.set s (h[s].1+1,.data 1 ((bC N (a*b)).map u6) true false))[s]?=some (h[s].1+1,.data 1 ((bC N (a*b)).map u6) true false):=by simp[hs3]
   have os:∀j,j≠s->(h.set s (h[s].1+1,.data 1 ((bC N (a*b)).map u6) true false))[j]?=h[j]?:=fun j hj=>by rw[List.getElem?_set_ne (Ne.symm hj)]
   exact hq _ _ (by simp[hl]) (hv.upd gs os) os (fun t ht=>RdN.new ht gs hm)
  have fin:∀(A' B':Nat)(o' p':V)(h':Hp),A'*B'^(n/2)=R->0<A'->0<B'->h'.length=3->NV h'->RdN 2 h' o' (dig Z A')->RdN 1 h' p' (dig Z B')->rl (lp (kD (CX Y)) [] h0 [o',p',I ((n:Int)/2)] h') k .mk:=by
   intro A' B' o' p' h' e1 e2 e3 e4 e5 e6 e7;rw[show((n:Int)/2)=((n/2:Nat):Int) by omega];exact ih (n/2) hn2 A' B' o' p' h' R e1 e2 e3 hlim aa e4 e5 e6 e7 hk h0 hl0
  have hdm:=X5 n 2;simp(disch:=try exact ac)[kD,hpos];refine bB ?_;simp[and1];by_cases hod:(n:Int)%2=1
  .have hod':n%2=1:=aa
   have eR:A*Bv*(Bv*Bv)^(n/2)=R:=by
    rw[<-hR]
    conv=>rhs;rw[<-hdm,hod',Yq,Nat.pow_mul,Nat.pow_one]
    rw[Nat.pow_two,Nat.mul_assoc,Zr Bv]
   refine bB ?_;simp[hod];refine lE (times h o p A Bv 1 hlen hnv aa ro.now rp.now dA dB _ fun o' h' l1 v1 s1 r1=>?_);have rp1:=rp.step (l1.trans hlen.symm) s1;have ro1:=r1 2 aa;simp;refine bB ?_;by_cases h1:(n:Int)>1
   .simp[h1];refine lE (times h' p p Bv Bv 2 l1 v1 aa rp1.now rp1.now dB dB _ fun p' h'' l2 v2 s2 r2=>?_);have ro2:=ro1.step (l2.trans l1.symm) s2;simp(disch:=try exact ac)[sh];exact fin _ _ o' p' h'' eR (Yk hA hB) (Yk hB hB) l2 v2 ro2 (r2 1 aa)
   .have hn1:n=1:=aa;simp(disch:=try exact ac)[h1,sh];refine fin (A*Bv) Bv o' p h' ?_ (Yk hA hB) hB l1 v1 ro1 rp1;rw[<-eR];subst hn1;simp
  .have hod':n%2=0:=aa
   have eR:A*(Bv*Bv)^(n/2)=R:=by
    rw[<-hR]
    conv=>rhs;rw[<-hdm,hod',Nat.add_zero,Nat.pow_mul]
    rw[Nat.pow_two]
   refine bB ?_;simp[hod];refine bB ?_;have h1:(n:Int)>1:=aa;simp[h1];refine lE (times h p p Bv Bv 2 hlen hnv aa rp.now rp.now dB dB _ fun p' h'' l2 v2 s2 r2=>?_);have ro2:=ro.step (l2.trans hlen.symm) s2;simp(disch:=try exact ac)[sh];exact fin _ _ o p' h'' eR hA (Yk hB hB) l2 v2 ro2 (r2 1 aa)
theorem OA(h:n<18446744073709551616):CP Y F.jO [.d (.int .u64 n)] (I (bQ n)):=by refine Bb ?_;simp[jO];refine cd (Dy h) ?_;simp<;>exact bP rfl
theorem wg:ah 2=[50]:=aF
theorem gU:ah 1=[49]:=aF
theorem Vw:CP Y F.nL [S [50]] (I 2):=by refine Ej ?_;have h:=zo (n:=2) aa;rw[wg]at h;have h2:=Dy (n:=2) aa;rw[show bQ 2=2 by rfl]at h2;simp[nL];refine cd h ?_;simp;refine cd h2 ?_;simp
theorem Rq{K:Nat}(h:n/3+1<=K):2^n<10^K:=by
 have h1:2^n=8^(n/3)*2^(n%3):=by
  rw[show(8:Nat)=2^3 from rfl,<-Nat.pow_mul,<-Yq,X5]
 have h2:8^(n/3)<=10^(n/3):=Nat.pow_le_pow_left af _
 have h3:2^(n%3)<=4:=by
  have:n%3<3:=Y1 _ af;exact Zu (Z4 af (show n%3<=2 by omega)) af
 have h4:10^(n/3+1)<=10^K:=Z4 af h;have h5:=Za h2 h3
 grind
theorem XE{K:Nat}(h:n/3+1<=K)(hK:0<K):ndg (2^n)<=K:=cQ (Rq h) hK
theorem adc{K:Nat}(h:n/3+1<=K):2^n<Z^K:=Z3 (Rq h) (Nat.pow_le_pow_left af _)
theorem BI(hn:n<=4000):2^n<Z^2000∧ndg (2^n)<=2000:=
 ⟨adc (K:=2000) aa,XE (K:=2000) aa aa⟩
theorem QT(hn:n<=4000):CP Y F.iP [S [50],I n] (.tup [S (ah (2^n)),I 0]):=by
 refine Bt ?_;by_cases h0:n=0
 .subst h0;rw[Nat.pow_zero,gU];simp[iP];simp[bN]
 have g1:¬(n:Int)=0:=aa;have g2:¬(n:Int)<0:=aa;have g3:¬(n:Int)>66439:=aa;have n1:¬([50]:LuQ)=[49]:=af;have n2:¬([50]:LuQ)=[48]:=af;have ct:=sN (h:=[nnQ,nnQ,nnQ]) rfl (n:=2) (cap:=1) aF aF;rw[wg]at ct;obtain⟨p1,p2⟩:=BI hn
 have hli:∀h:Hp,fO 1 [D.int .u64 0] [(0,V.d (D.int .u64 1))] h=some ([u6 1],h):=fun h=>by rfl
 simp(disch:=try exact ac)[iP,g1,g2,n1,n2];refine cd Vw ?_;simp[g3,hli];refine lE (gA (e:=0) (b:=.none) ct rfl ?_);rw[List.length_map,dp];simp
 have nv:NV [(1,.data 1 ((bC 1 2).map u6) true false),nnQ,nnQ]:=by
  intro j x hj b';rcases W0.2 ⟨j,hj⟩with hm;simp only[Zs,Ym,or_false]at hm;rcases hm with rfl|rfl|rfl<;>rfl
 refine lo (Tm _ n 1 2 (lst u6 [1]) _ [(1,.data 1 ((bC 1 2).map u6) true false),nnQ,nnQ] (2^n) (by rw[Ww]) af af p1 aa rfl nv ?_ ?_ (fun o' h' h2 hl hr hv=>?_) _ rfl)
 .intro h' _ _;rw[show dig Z 1=[1] by rfl];simp[Pk]
 .exact RdN.new (s:=1) (t:=0) af rfl af
 .have hl1:¬(ndg (2^n):Int)>20000:=aa;have lt:=lV (2^n);have tx:=vQ (n:=2^n) (Zj (iC p1) af);generalize 2^n=m at *;simp;refine cdz (by simp only[aA,hr];rfl) tx ?_;rw[show dD (S (ah m))=true from rfl,if_pos rfl];simp[lt,hl1];simp[bN]
theorem zA(hn:n<=4000):CP Y F.kJ [S [50],I n] (.tup [S (ah (2^n)),I 0]):=by refine EJ ?_;have sp:=qR 2;rw[wg]at sp;have g2:¬(n:Int)<0:=aa;have g3:¬(n:Int)>4000:=aa;obtain⟨p1,p2⟩:=BI hn;have q:((4000:Int).tdiv 1)=4000:=af;simp[kJ,g2];refine cd sp ?_;simp[g3,q];refine cd (QT hn) ?_;simp;refine cd (Us _) ?_;simp[bN]
def dgF(unit two:Nat):Nat->Nat->Nat->Nat->Option Nat
 |0,_,_,out=>some out
 | r+1,low,high,out=>
  cond (Nat.ble two (low*low/unit)) (dgF unit two r (low*low/unit/2) ((high*high/unit+1)/2+1) (out+out+1))
   (cond (Nat.ble two (high*high/unit+1)) none (dgF unit two r (low*low/unit) (high*high/unit+1) (out+out)))
def Bq(p n more:Nat):Option Nat:=dgF (2^more) (2^more+2^more) n (p*2^(more-(bQ p-1))) (p*2^(more-(bQ p-1))) (bQ p-1)
def dgV:Option Nat->V
 |some v=>.tup [S (ah v),B true]
 |none=>.tup [S [],B false]
theorem sW(ha:ndg a<999999)(hb:ndg b<999999):CP Y F.cO [S (ah a),S (ah b)] (S (ah (a+b))):=by have:=sV (z:=(a:Int)) (w:=(b:Int)) (by trivial) (by trivial);trivial
theorem uW(ha:ndg a<400000)(hb:ndg b<400000):CP Y F.bj [S (ah a),S (ah b)] (S (ah (a*b))):=by have:=qY (z:=(a:Int)) (w:=(b:Int)) (by trivial) (by trivial);trivial
theorem sU(h0:0<b)(ha:ndg a<900000)(hb:ndg b<900000):CP Y F.bc [S (ah a),S (ah b)] (.tup [S (ah (a/b)),S (ah (a%b)),I 0]):=by grind[w7,kv]
theorem rV:ndg (a*b)<=ndg a+ndg b:=by
 have h3:a*b<10^(ndg a+ndg b):=by rw[Yq];exact Yl (de a) (de b)
 exact cQ h3 (by grind[kX])
theorem Vb:decide (0<=Big.cmp a b)=Nat.ble b a:=by grind[Nat.ble_eq,Et,cmp_eq,Eu]
theorem J5(h:ndg n<=k):ndg (n+n+1)<=k+1:=by have h1:n<10^k:=Z3 (de n) (Z4 af h);exact cQ aa aa
theorem AU{unit two N W:Nat}(hu:2<=unit)(htwo:two=unit+unit)(hW:ndg two<=W)(hW2:W<100000)(hN:N<100000)(k:KL):∀(r i low high out:Nat),i+r=N->low<=high->high<two->ndg out<=W+i ->
  (∀v,dgF unit two r low high out=some v->ndg v<=W+N->k (.exit 0) [S (ah v)] [])->(dgF unit two r low high out=none->k .ret [S [],B false] []) ->
  lp (oX (CX Y) (S (ah unit)) (S (ah two)) (I N)) [] [] [S (ah low),S (ah high),S (ah out),I i] [] k
 | 0,i,low,high,out,hi,hlh,hht,ho,h0,h1=>by
  have hiN:¬(i:Int)<(N:Int):=aa;refine ai ?_;simp[oX,hiN];exact h0 out rfl aa
 | r+1,i,low,high,out,hi,hlh,hht,ho,h0,h1=>by
  have hiN:(i:Int)<(N:Int):=aa;have ih:=AU hu htwo hW hW2 hN k r (i+1);have u1:ndg unit<=W:=Zu (cJ aa) hW;have u2:ndg low<=W:=Zu (cJ aa) hW;have u3:ndg high<=W:=Zu (cJ aa) hW;have m1:=uW (a:=low) (b:=low) aa aa;have m2:=uW (a:=high) (b:=high) aa aa
  have w1:ndg (low*low)<=W+W:=Zu rV aa;have w2:ndg (high*high)<=W+W:=Zu rV aa;have d1:=sU (a:=low*low) (b:=unit) aa aa aa;have d2:=sU (a:=high*high) (b:=unit) aa aa aa;have lowle:low*low/unit<=high*high/unit:=Nat.div_le_div_right (Za hlh hlh)
  have hi4:high*high/unit+4<=4*unit:=by
   have e1:high*high<=(2*unit-1)*(2*unit-1):=Za aa aa
   have e2:(2*unit-1)*(2*unit-1)+4*unit=4*unit*unit+1:=by
    obtain⟨x,hx⟩:∃x,unit=x+1:=⟨unit-1,aa⟩;subst hx;rw[show 2*(x+1)-1=2*x+1 by omega];simp only[Nat.add_mul,Zp,Yj,Ww,Nat.mul_assoc,Y3 x 2];omega
   have e3:high*high<(4*unit-3)*unit:=by
    rw[Nat.sub_mul];have:4*unit*unit≥3*unit:=Zy _ aa;omega
   have:=(Xp aa).2 e3;omega
  have eqF:dgF unit two (r+1) low high out=cond (Nat.ble two (low*low/unit)) (dgF unit two r (low*low/unit/2) ((high*high/unit+1)/2+1) (out+out+1))
   (cond (Nat.ble two (high*high/unit+1)) none (dgF unit two r (low*low/unit) (high*high/unit+1) (out+out))):=rfl
  rw[eqF]at h0 h1;generalize low*low/unit=L1 at *;generalize high*high/unit=H0 at *;have t2:ndg (two+two)<=W+1:=rW hW hW;have v1:ndg L1<=W+1:=Zu (cJ aa) t2;have v2:ndg H0<=W+1:=Zu (cJ aa) t2;have v3:ndg (H0+1)<=W+1:=Zu (cJ aa) t2;have a1:=sW (a:=H0) (b:=1) aa (by simp[tX]);rw[gU]at a1
  have a2:=sW (a:=out) (b:=out) aa aa;have vo:ndg (out+out)<=W+i+1:=rW ho ho;have a3:=sW (a:=out+out) (b:=1) aa (by simp[tX]);rw[gU]at a3;have c1:=Ch (a:=L1) (b:=two) aa aa;have c2:=Ch (a:=H0+1) (b:=two) aa aa;have g1:=Vb (a:=L1) (b:=two);have g2:=Vb (a:=H0+1) (b:=two)
  have d3:=sU (a:=L1) (b:=2) aa aa (by rw[show ndg 2=1 by decide+kernel];omega);have d4:=sU (a:=H0+1) (b:=2) aa aa (by rw[show ndg 2=1 by decide+kernel];omega);rw[wg]at d3 d4;have v4:ndg ((H0+1)/2)<=W+1:=Zu (cJ aa) t2;have a4:=sW (a:=(H0+1)/2) (b:=1) aa (by simp[tX]);rw[gU]at a4
  generalize Big.cmp L1 two=C1 at *;generalize Big.cmp (H0+1) two=C2 at *;refine ai ?_;simp[oX,hiN];refine bB ?_;simp;refine cd m1 ?_;simp;refine cd d1 ?_;simp;refine cd m2 ?_;simp;refine cd d2 ?_;simp;refine cd a1 ?_;simp;refine cd a2 ?_;simp;refine bB ?_;simp;refine cd c1 ?_;simp;refine bB ?_;cases q1:Nat.ble two L1 with
  | true=>
   rw[q1]at g1 h0 h1;simp only[cond_true]at h0 h1;have g1':0<=C1:=by simpa using g1
   have b1:two<=L1:=Nat.le_of_ble_eq_true q1;simp[g1'];refine cd a3 ?_;simp;refine cd d3 ?_;simp;refine cd d4 ?_;simp;refine cd a4 ?_;simp(disch:=try exact ac);have:=ih (L1/2) ((H0+1)/2+1) (out+out+1) aa aa aa (J5 ho) h0 h1;trivial
  | false=>
   rw[q1]at g1 h0 h1;simp only[cond_false]at h0 h1;have g1':¬0<=C1:=by simpa using g1
   simp[g1'];refine cd c2 ?_;simp;cases q2:Nat.ble two (H0+1)with
   | true=>
    rw[q2]at g2 h1;have g2':0<=C2:=by simpa using g2
    simp[g2']
    grind
   | false=>
    rw[q2]at g2 h0 h1;simp only[cond_false]at h0 h1;have g2':¬0<=C2:=by simpa using g2
    have b2:¬two<=H0+1:=fun h=>by simp_all[Nat.ble_eq_true_of_le]
    simp(disch:=try exact ac)[g2'];have:=ih L1 (H0+1) (out+out) aa aa aa aa h0 h1;trivial
theorem Qg(v:Nat)(h:Hp):out (dgV (some v)) (.tup [S (ah v),B true]) h:=bN rfl rfl
theorem Qh(h:Hp):out (dgV none) (.tup [S [],B false]) h:=bN rfl rfl
theorem M5{p more:Nat}(hp:2<=p)(hp2:p<1000000)(hm1:30<=more)(hm:more<=4000)(hn:n<=4000):CP Y F.size_digits [I p,I n,I more] (dgV (Bq p n more)):=by
 refine ES ?_;obtain⟨hk0,hpk,hk1⟩:=qJ (n:=p) aa
 have hk2:bQ p<=20:=by
  rcases Zl 20 (bQ p)with h|h
  .have:2^20<=2^(bQ p-1):=Z4 af aa;omega
  .exact h
 obtain⟨kk,hkk⟩:=nmQ (bQ p-1);obtain⟨mk,hmk⟩:=nmQ (more-kk);have e1:((bQ p:Nat):Int)-1=(kk:Int):=aa;have e2:(more:Int)-(kk:Int)=(mk:Int):=aa;have hcv:IntKind.wrap .u64 (p:Int)=(p:Int):=LG aa aa;have lb:=OA (n:=p) aa;have pw:=zA hm;have pw2:=zA (n:=mk) aa;have b1:=(BI hm).2
 have b2:=(BI (n:=mk) aa).2;have ad:=sW (a:=2^more) (b:=2^more) aa aa;have op:=My (n:=p) aa;have ok:=My (n:=kk) aa;have np:ndg p<=6:=cQ aa af;have nk:ndg kk<=2:=cQ aa af;have ml:=uW (a:=p) (b:=2^mk) aa aa;have b3:ndg (2^more+2^more)<=2000+1:=rW b1 b1
 have hlt:p*2^mk<2^more+2^more:=by
  have h1:p*2^mk<2^bQ p*2^mk:=(Nat.mul_lt_mul_right (X6 af)).2 hpk;rw[<-Yq,show bQ p+mk=more+1 by omega,Nat.pow_succ]at h1;omega
 have hu:2<=2^more:=by
  have:2^1<=2^more:=Z4 af aa;omega
 have eF:Bq p n more=dgF (2^more) (2^more+2^more) n (p*2^mk) (p*2^mk) kk:=by
  unfold Bq;rw[<-hkk,<-hmk]
 rw[eF];generalize 2^more=unit at *;generalize 2^mk=pm at *;generalize p*pm=low at *;simp[size_digits,hcv];refine cd lb ?_;simp(disch:=try exact ac)[e1];refine cd pw ?_;simp;refine cd ad ?_;simp(disch:=try exact ac)[e2];refine cd pw2 ?_;simp;refine cd op ?_;simp;refine cd ml ?_;simp;refine cd ok ?_;simp
 refine lo (AU hu rfl (W:=2001) b3 aa (N:=n) aa _ n 0 low low kk aa (Z7 _) hlt aa (fun v hv _=>?_) (fun hv=>?_))
 .rw[hv];simp;exact Qg v _
 .rw[hv];simp;exact Qh _
def HP(p n:Nat):Option Nat:=if p=2 then some (2^n)else Bq p n (n+64)
theorem abH{p v:Nat}(hp:2<=p)(hp2:p<1000000)(hn:n<=3900)(hv:HP p n=some v):CP Y F.rt [I p,I n] (S (ah v)):=by
 refine Mc ?_;unfold HP at hv;by_cases h2:p=2
 .rw[if_pos h2]at hv;simp only[Z9]at hv;have e:((p:Int)=2):=aa;have pw:=zA (n:=n) aa;rw[hv]at pw;simp[rt,e];refine cd pw ?_;simp;exact eU rfl
 .rw[if_neg h2]at hv;have e:¬((p:Int)=2):=aa;have dg:=M5 (p:=p) (n:=n) (more:=n+64) hp hp2 aa aa aa;rw[hv]at dg;obtain⟨m,hm⟩:=nmQ (n+64);rw[<-hm]at dg;have e3:(n:Int)+64=(m:Int):=aa;simp(disch:=try exact ac)[rt,e,e3];refine lo (ai ?_);simp[AF];refine cd dg ?_;simp[dgV];exact eU rfl
abbrev Q:=Int×Nat
def okQ(x:Q):Prop:=0<x.2∧Nat.gcd x.1.natAbs x.2=1
def qT(x:Q):LwQ:=[S (itoa x.1),S (ah x.2)]
def mK(n:Int)(d:Nat):Q:=(n/(Nat.gcd n.natAbs d:Nat),d/Nat.gcd n.natAbs d)
def ko(a b:Q):Q:=mK (a.1*b.2+b.1*a.2) (a.2*b.2)
def pA(a b:Q):Q:=mK (a.1*b.1) (a.2*b.2)
def rN(a:Q):Q:=(-a.1,a.2)
def wH(n d:Int):Q:=if d<0 then mK (-n) d.natAbs else mK n d.natAbs
def ago(a b:Q):Q:=wH (a.1*b.2) (a.2*b.1)
theorem Vi{n:Int}(h:g∣n.natAbs):(g:Int)∣n:=Int.natAbs_dvd_natAbs.1 (by simpa using h)
theorem HO(n:Int)(hd:0<d):okQ (mK n d):=by
 have hg:0<Nat.gcd n.natAbs d:=Xj _ hd;obtain⟨g,hgg⟩:=nmQ (Nat.gcd n.natAbs d);have h1:g∣n.natAbs:=by rw[hgg];exact Ws ..
 have h2:g∣d:=by rw[hgg];exact Nat.gcd_dvd_right ..
 unfold mK;rw[<-hgg]at hg ⊢;refine⟨Wj (Xi hd h2) hg,?_⟩
 have e:(n/(g:Int)).natAbs=n.natAbs/g:=by
  rw[Int.natAbs_ediv_of_dvd (Vi h1),Int.natAbs_natCast]
 simp only[e];rw[Nat.gcd_div h1 h2,<-hgg,Nat.div_self hg]
theorem TU{n:Int}(h:Nat.gcd n.natAbs d=1):mK n d=(n,d):=by unfold mK;rw[h];simp
theorem On(n:Int)(d:Nat):(mK n d).1.natAbs<=n.natAbs∧(mK n d).2<=d:=by
 obtain⟨g,hgg⟩:=nmQ (Nat.gcd n.natAbs d);have h1:g∣n.natAbs:=by rw[hgg];exact Ws ..
 unfold mK;rw[<-hgg];constructor
 .simp only;rw[Int.natAbs_ediv_of_dvd (Vi h1),Int.natAbs_natCast];exact Yt ..
 .exact Yt ..
theorem XC(k:KL)(h:Hp)(h0:Hp)(hl:h.length=h0.length):∀(m:Nat)(a b:Int),b.natAbs<=m->a.natAbs<9223372036854775807->b.natAbs<9223372036854775807 ->
  (∀c:Int,c.natAbs=Nat.gcd a.natAbs b.natAbs->k (.exit 0) [I c] h)->lp (m5 (CX Y)) [] h0 [I a,I b] h k:=by
 intro m
 induction m with
 | zero=>
  intro a b hb ha hb2 hk;have hb0:b=0:=aa;subst hb0;refine ai ?_;simp[m5];exact hk a ae
 | succ m ih=>
  intro a b hb ha hb2 hk;refine ai ?_;by_cases hb0:b=0
  .subst hb0;simp[m5];exact hk a ae
  ·have hr:(a.tmod b).natAbs<b.natAbs:=by
    rw[Int.natAbs_tmod];exact Y1 _ aa
   have e:Nat.gcd b.natAbs (a.tmod b).natAbs=Nat.gcd a.natAbs b.natAbs:=by
    rw[Int.natAbs_tmod,Wn,<-Nat.gcd_rec,Wn]
   simp[m5,hb0,hl];exact ih b (a.tmod b) aa aa aa (fun c hc=>hk c (hc.trans e))
theorem lF{a b a' b':LuQ}(e1:a'=a)(e2:b'=b):out (.agg [S a,S b]) (.agg [S a',S b']) h:=by subst e1;subst e2;exact⟨h,by simp[bg,aA,norm]⟩
theorem OJ{n:Int}(hd:0<d)(hn:n.natAbs<9223372036854775807)(hd2:d<9223372036854775807):CP Y F.iM [I n,I d] (.agg (qT (mK n d))):=by
 refine E5 ?_;obtain⟨g,hgg⟩:=nmQ (Nat.gcd n.natAbs d);have hg:0<g:=by rw[hgg];exact Xj _ hd
 have h1:g∣n.natAbs:=by rw[hgg];exact Ws ..
 have h2:g∣d:=by rw[hgg];exact Nat.gcd_dvd_right ..
 have hgd:g<=d:=Xi hd h2;have e1:n.tdiv (g:Int)=n/(g:Int):=Int.tdiv_eq_ediv_of_dvd (Vi h1);have e2:(d:Int).tdiv (g:Int)=((d/g:Nat):Int):=by rw[Zv aa,<-Int.natCast_ediv]
 have e3:(n/(g:Int)).natAbs<=n.natAbs:=by
  rw[Int.natAbs_ediv_of_dvd (Vi h1),Int.natAbs_natCast];exact Yt ..
 have e4:d/g<=d:=Yt ..;have eq:qT (mK n d)=[S (itoa (n/(g:Int))),S (ah (d/g))]:=by unfold qT mK;rw[<-hgg]
 rw[eq];generalize n/(g:Int)=nq at *;generalize d/g=dq at *;have i1:=BU (z:=nq) aa aa;have i2:=BU (z:=(dq:Int)) aa aa;rw[kv]at i2;have hg0:¬(g:Int)=0:=aa;simp[iM];refine lo (XC _ _ _ rfl (d:Int).natAbs n d (Z7 _) hn aa (fun c hc=>?_));rw[Int.natAbs_natCast,<-hgg]at hc;simp
 have tail:∀u:Unit,bnd (biI .quo (I n) (I g)) fun v6=>
   cal (CX Y).p [(1,.vars [.d (.str []),.d (.str [])])] (.fn F.strconv_Itoa [] []) [v6] fun v7 h=>
   bnd (biI .quo (I d) (I g)) fun v8=>
   cal (CX Y).p h (.fn F.strconv_Itoa [] []) [v8] fun v9 h=>
   bnd (bld [(0,1),(1,1)] [.str [],.str []] [(0,v7),(1,v9)]) fun v10=>
   stD h 2 (.ptr 0 1 0 2) v10 fun _ h=>
   bnd (ldA h 2 (.ptr 0 1 0 2)) fun v12=>
   out (.agg [S (itoa nq),S (ah dq)]) v12 h:=by
  intro _;simp(disch:=try exact ac)[e1,e2,hg0];refine cd i1 ?_;simp(disch:=try exact ac)[e2,hg0];refine cd i2 ?_;simp;exact lF rfl rfl
 by_cases hc0:c<0
 .have hcg : -c=(g:Int):=aa;refine gv (l:=[I g]) (h:=[(1,.vars [.d (.str []),.d (.str [])])]) (fun q=>by simp(disch:=try exact ac)[hc0,hcg]) ?_;exact tail ()
 .have hcg:c=(g:Int):=aa;subst hcg;refine gv (l:=[I g]) (h:=[(1,.vars [.d (.str []),.d (.str [])])]) (fun q=>by simp[hc0]) ?_;exact tail ()
def qL(K:Nat)(x:Q):Prop:=ndg x.1.natAbs<=K∧ndg x.2<=K
theorem TV{n:Int}{K:Nat}(h1:ndg n.natAbs<=K)(h2:ndg d<=K):qL K (mK n d):=
 ⟨Zu (cJ (On n d).1) h1,Zu (cJ (On n d).2) h2⟩
theorem qL.mono{K:Nat}{x:Q}(h:qL K x)(hl:K<=L):qL L x:=⟨Zu h.1 hl,Zu h.2 hl⟩
theorem vr(hz:ndg z.natAbs<=k)(hw:ndg w.natAbs<=k):ndg (z+w).natAbs<=k+1:=
 Zu (cJ (Wz z w)) (rW hz hw)
theorem jH:ndg (z*w).natAbs<=ndg z.natAbs+ndg w.natAbs:=by rw[Y2];exact rV
theorem abn{a b:Q}{K:Nat}(ha:qL K a)(hb:qL L b):qL (K+L+1) (ko a b):=by
 refine TV (vr ?_ ?_) ?_
 .have:=jH (z:=a.1) (w:=(b.2:Int));rw[Int.natAbs_natCast]at this;have:=ha.1;have:=hb.2;omega
 .have:=jH (z:=b.1) (w:=(a.2:Int));rw[Int.natAbs_natCast]at this;have:=hb.1;have:=ha.2;omega
 .have:=rV (a:=a.2) (b:=b.2);have:=ha.2;have:=hb.2;omega
theorem Mo{a b:Q}{K:Nat}(ha:qL K a)(hb:qL L b):qL (K+L) (pA a b):=by
 refine TV ?_ ?_
 .have:=jH (z:=a.1) (w:=b.1);have:=ha.1;have:=hb.1;omega
 .have:=rV (a:=a.2) (b:=b.2);have:=ha.2;have:=hb.2;omega
theorem WJ{a b:Q}(ha:okQ a)(hb:okQ b):okQ (ko a b):=HO _ (Yk ha.1 hb.1)
theorem Hs{a b:Q}(ha:okQ a)(hb:okQ b):okQ (pA a b):=HO _ (Yk ha.1 hb.1)
theorem Rn(hw0:0<w)(hz:ndg z.natAbs<900000)(hw:ndg w.natAbs<900000):CP Y F.bc [S (itoa z),S (itoa w)] (.tup [S (itoa (z/w)),S (itoa (z%w)),I 0]):=by obtain⟨m,rfl⟩:∃m:Nat,w=m:=⟨w.toNat,aa⟩;rw[kv];exact w7 aa hz (by simpa using hw)
theorem Gf{n d:Int}(hd:d≠0)(hn:ndg n.natAbs<800000)(hd2:ndg d.natAbs<800000):CP Y F.bZ [S (itoa n),S (itoa d)] (.agg (qT (wH n d))):=by
 refine yv ?_;have sg0:=oY d
 have tail:∀(n:Int)(d:Nat),0<d->ndg n.natAbs<800000->ndg d<800000 ->
   cal (CX Y).p [(1,.vars [.d (.str []),.d (.str [])])] (.fn F.oE [] []) [S (itoa n),S (ah d)] fun v6 h=>
  bnd (biS .neq v6 (.d (.str [49]))) fun v7=>
  jn (fun l8 h=>
   bnd (bld [(0,1),(1,1)] [.str [],.str []] [(0,(ge l8 0)),(1,(ge l8 1))]) fun v10=>
   stD h 2 (.ptr 0 1 0 2) v10 fun _ h=>
   bnd (ldA h 2 (.ptr 0 1 0 2)) fun v12=>
   out (.agg (qT (mK n d))) v12 h) fun q9=>
   cnd v7 (
    cal (CX Y).p h (.fn F.bc [] []) [S (itoa n),v6] fun v13 h=>
    ext v13 0 fun v14=>
    ext v13 1 fun v15=>
    ext v13 2 fun v16=>
    cal (CX Y).p h (.fn F.bc [] []) [S (ah d),v6] fun v17 h=>
    ext v17 0 fun v18=>
    ext v17 1 fun v19=>
    ext v17 2 fun v20=>
    q9 [v14,v18] h) (
    q9 [S (itoa n),S (ah d)] h):=by
  intro n d hd hn hd2;have gc:=OH (z:=n) (w:=(d:Int)) aa (by simpa using Nat.lt_trans hd2 af);rw[kv,Int.natAbs_natCast]at gc;obtain⟨g,hgg⟩:=nmQ (Nat.gcd n.natAbs d);have hg:0<g:=by rw[hgg];exact Xj _ hd
  have hgd:g<=d:=Xi hd (by rw[hgg];exact Nat.gcd_dvd_right ..);have eq:mK n d=(n/(g:Int),d/g):=by unfold mK;rw[<-hgg]
  rw[<-hgg]at gc;rw[eq];have ng:ndg g<900000:=Zj (cJ hgd) aa;have d1:=w7 (z:=n) hg aa ng;have d2:=sU (a:=d) hg aa ng;simp;refine cd gc ?_;by_cases h1:g=1
  .subst h1;rw[gU];simp;refine gv (l:=[S (itoa n),S (ah d)]) (h:=[(1,.vars [.d (.str []),.d (.str [])])]) (fun q=>by simp) ?_;simp;refine lF ae ae
  .have h49:¬ah g=[49]:=fun h=>h1 (pR (h.trans gU.symm))
   simp[h49];refine bB ?_;simp[h49];refine cd d1 ?_;simp;refine cd d2 ?_;simp;exact lF rfl rfl
 simp[bZ];refine cd sg0 ?_;by_cases hneg:d<0
 .have s1:sgn d = -1:=by unfold sgn;rw[if_neg hd,if_pos hneg]
  rw[s1];have hd3:ndg (-d).natAbs<800000:=by rw[Xf];exact hd2
  have n1:=yg (z:=n) aa;have n2:=yg (z:=d) aa;have e:wH n d=mK (-n) d.natAbs:=if_pos hneg;have ed:itoa (-d)=ah d.natAbs:=by rw[show -d=((d.natAbs:Nat):Int) by omega,kv]
  rw[e];rw[ed]at n2;simp;refine bB ?_;simp;refine cd n1 ?_;simp;refine cd n2 ?_;have:=tail (-n) d.natAbs aa (by rw[Xf];exact hn) hd2;simpa using this
 .have s1:sgn d=1:=by unfold sgn;rw[if_neg hd,if_neg hneg]
  rw[s1];have e:wH n d=mK n d.natAbs:=if_neg hneg;have ed:itoa d=ah d.natAbs:=by conv=>lhs;rw[show d=((d.natAbs:Nat):Int) by omega,kv]
  rw[e,ed];simp;refine bB ?_;simp;have:=tail n d.natAbs aa hn hd2;simpa using this
theorem yO(a:Q):CP Y F.eD [.agg (qT a)] (.tup [I (if sdg a.1<=9 then a.1 else 0),I (if ndg a.2<=9 then a.2 else 0),B (decide (sdg a.1<=9)&&decide (ndg a.2<=9))]):=by
 refine Bn ?_;have l1:=Dw a.1;have l2:=Dw (a.2:Int);have e:sdg (a.2:Int)=ndg a.2:=by unfold sdg;rw[if_neg aa,Int.natAbs_natCast];rfl
 rw[kv,e]at l2;simp[eD,qT];refine cd l1 ?_;by_cases h1:sdg a.1<=9
 .rw[if_pos h1,if_pos h1,decide_eq_true h1];simp;refine cd l2 ?_;by_cases h2:ndg a.2<=9
  .rw[if_pos h2,if_pos h2,decide_eq_true h2];simp;exact jE rfl rfl rfl
  .rw[if_neg h2,if_neg h2,decide_eq_false h2];simp;exact jE rfl rfl rfl
 .rw[if_neg h1,if_neg h1,decide_eq_false h1];simp;refine cd l2 ?_;by_cases h2:ndg a.2<=9
  .rw[if_pos h2,if_pos h2,decide_eq_true h2];simp;exact jE rfl rfl rfl
  .rw[if_neg h2,if_neg h2,decide_eq_false h2];simp;exact jE rfl rfl rfl
theorem XL(n:Int)(hd:0<d):(mK n d).1*(d:Int)=n*((mK n d).2:Int)∧0<(mK n d).2:=by
 obtain⟨g,hg⟩:=nmQ (Nat.gcd n.natAbs d);have hg0:0<g:=by rw[hg];exact Xj _ hd
 obtain⟨d',hd'⟩:g∣d:=by rw[hg];exact Nat.gcd_dvd_right ..
 obtain⟨n',hn'⟩:(g:Int)∣n:=Vi (by rw[hg];exact Ws ..)
 have e1:(mK n d).1=n':=by
  simp only[mK,<-hg];rw[hn'];exact Int.mul_ediv_cancel_left _ aa
 have e2:(mK n d).2=d':=by
  simp only[mK,<-hg];rw[hd'];exact X9 _ hg0
 rw[e1,e2];refine⟨?_,?_⟩
 .rw[hn',hd',Int.natCast_mul,<-Int.mul_assoc,Xz n' g]
 .rcases Zi d' with h|h
  .rw[h]at hd';omega
  .exact h
theorem Oo{n:Int}(hd:0<d)(hn:ndg n.natAbs<800000)(hd2:ndg d<800000):CP Y F.bZ [S (itoa n),S (ah d)] (.agg (qT (mK n d))):=by have:=Gf (n:=n) (d:=(d:Int)) aa hn (by trivial);trivial
theorem FD(hz:ndg z.natAbs<400000)(hb:ndg b<400000):CP Y F.bj [S (itoa z),S (ah b)] (S (itoa (z*b))):=by grind[qY,kv]
theorem G4(h:Hp)(s t:LuQ):aA h [.agg [S s,S t]]=some ([.agg [S s,S t]],h):=by rfl
theorem G6{a:Q}(h1:sdg a.1<=9)(h2:ndg a.2<=9):a.1.natAbs<1000000000∧a.2<1000000000:=
 ⟨rQ h1,Z3 (de _) (Z4 af h2)⟩
theorem KH{a b:Q}(ha:okQ a)(hb:okQ b)(la:qL 100000 a)(lb:qL 100000 b):CP Y F.jL [.agg (qT a),.agg (qT b)] (.agg (qT (pA a b))):=by
 refine DX ?_;obtain⟨la1,la2⟩:=la;obtain⟨lb1,lb2⟩:=lb;have b1:=yO a;have b2:=yO b;have m1:=qY (z:=a.1) (w:=b.1) aa aa;have m2:=uW (a:=a.2) (b:=b.2) aa aa;have n1:=jH (z:=a.1) (w:=b.1);have n2:=rV (a:=a.2) (b:=b.2);have hd:0<a.2*b.2:=Yk ha.1 hb.1
 have lw:CP Y F.bZ [S (itoa (a.1*b.1)),S (ah (a.2*b.2))] (.agg (qT (pA a b))):=Oo (n:=a.1*b.1) hd aa aa;have ff:(a.1*b.1).natAbs<9223372036854775807->a.2*b.2<9223372036854775807->CP Y F.iM [I (a.1*b.1),I (a.2*b.2:Nat)] (.agg (qT (pA a b))):=fun h1 h2=>OJ hd h1 h2
 obtain⟨x,y,hxy⟩:∃x y,qT (pA a b)=[S x,S y]:=⟨_,_,rfl⟩;rw[hxy]at lw ff ⊢;simp only[qT]at b1 b2 ⊢
 have tail:∀u:Unit,cal (CX Y).p [(1,.vars [S (itoa a.1),S (ah a.2)]),(1,.vars [S (itoa b.1),S (ah b.2)]),(1,.vars [.d (.str []),.d (.str [])])] (.fn F.bj [] []) [S (itoa a.1),S (itoa b.1)] fun v15 h=>
  bnd (faV 1 (.ptr 0 1 0 2)) fun v16=>
  bnd (ld1 h v16) fun v17=>
  bnd (faV 1 (.ptr 1 1 0 2)) fun v18=>
  bnd (ld1 h v18) fun v19=>
  cal (CX Y).p h (.fn F.bj [] []) [v17,v19] fun v20 h=>
  cal (CX Y).p h (.fn F.bZ [] []) [v15,v20] fun v21 h=>
  stD h 2 (.ptr 2 1 0 2) v21 fun _ h=>
  bnd (ldA h 2 (.ptr 2 1 0 2)) fun v23=>
  out (.agg [S x,S y]) v23 h:=by
  intro _;simp;refine cd m1 ?_;simp;refine cd m2 ?_;simp;refine cd lw ?_;simp;exact lF rfl rfl
 simp[jL];refine cd b1 ?_ (G4 ..);cases g1:decide (sdg a.1<=9)&&decide (ndg a.2<=9)with
 | false=>
  simp;refine bB ?_;simp
  simp_all
 | true=>
  simp only[Z8,decide_eq_true_eq]at g1;obtain⟨s1,s2⟩:=G6 g1.1 g1.2;rw[if_pos g1.1,if_pos g1.2];simp;refine bB ?_;simp;refine cd b2 ?_ (G4 ..);cases g2:decide (sdg b.1<=9)&&decide (ndg b.2<=9)with
  | false=>
   simp
   simp_all
  | true=>
   simp only[Z8,decide_eq_true_eq]at g2;obtain⟨s3,s4⟩:=G6 g2.1 g2.2;rw[if_pos g2.1,if_pos g2.2];have p1:(a.1*b.1).natAbs<1000000000*1000000000:=by rw[Y2];exact Yl s1 s3
   have p2:a.2*b.2<1000000000*1000000000:=Yl s2 s4;have e2:(a.2:Int)*(b.2:Int)=((a.2*b.2:Nat):Int):=ae;have ff:=ff aa aa;obtain⟨N,hN⟩:=mnQ (a.1*b.1);rw[hN]at p1 ff;generalize a.2*b.2=D at *;simp(disch:=try exact ac)[e2,hN];refine cd ff ?_;simp;simp[lF]
theorem D4{a b:Q}(ha:okQ a)(hb:okQ b)(la:qL 100000 a)(lb:qL 100000 b):CP Y F.eM [.agg (qT a),.agg (qT b)] (.agg (qT (ko a b))):=by
 refine DZ ?_;obtain⟨la1,la2⟩:=la;obtain⟨lb1,lb2⟩:=lb;have b1:=yO a;have b2:=yO b;have m1:=FD (z:=a.1) (b:=b.2) aa aa;have m2:=FD (z:=b.1) (b:=a.2) aa aa;have m3:=uW (a:=a.2) (b:=b.2) aa aa;have n1:=jH (z:=a.1) (w:=(b.2:Int));have n2:=jH (z:=b.1) (w:=(a.2:Int))
 have n3:=rV (a:=a.2) (b:=b.2);rw[Int.natAbs_natCast]at n1 n2;have n4:ndg (a.1*b.2+b.1*a.2).natAbs<=200000+1:=vr aa aa;have ad:=sV (z:=a.1*b.2) (w:=b.1*a.2) aa aa;have hd:0<a.2*b.2:=Yk ha.1 hb.1
 have lw:CP Y F.bZ [S (itoa (a.1*b.2+b.1*a.2)),S (ah (a.2*b.2))] (.agg (qT (ko a b))):=Oo hd aa aa;have ff:(a.1*b.2+b.1*a.2).natAbs<9223372036854775807->a.2*b.2<9223372036854775807->CP Y F.iM [I (a.1*b.2+b.1*a.2),I (a.2*b.2:Nat)] (.agg (qT (ko a b))):=fun h1 h2=>OJ hd h1 h2
 by_cases one:a.2=1∧b.2=1
 .have ad1:=sV (z:=a.1) (w:=b.1) aa aa
  have eq:ko a b=(a.1+b.1,1):=by
   unfold ko;rw[one.1,one.2];rw[TU ae];simp
  rw[eq];have t1:qT a=[S (itoa a.1),S [49]]:=by unfold qT;rw[one.1,gU]
  have t2:qT b=[S (itoa b.1),S [49]]:=by unfold qT;rw[one.2,gU]
  have t3:qT (a.1+b.1,1)=[S (itoa (a.1+b.1)),S [49]]:=by unfold qT;rw[gU]
  rw[t1,t2,t3];simp[eM];refine cd ad1 ?_;simp;simp[lF]
 obtain⟨x,y,hxy⟩:∃x y,qT (ko a b)=[S x,S y]:=⟨_,_,rfl⟩;rw[hxy]at lw ff ⊢;simp only[qT]at b1 b2 ⊢
 have tail:∀u:Unit,cal (CX Y).p [(1,.vars [S (itoa a.1),S (ah a.2)]),(1,.vars [S (itoa b.1),S (ah b.2)]),(1,.vars [.d (.str []),.d (.str [])])] (.fn F.bj [] []) [S (itoa a.1),S (ah b.2)] fun v30 h=>
   bnd (faV 0 (.ptr 1 1 0 2)) fun v31=>
   bnd (ld1 h v31) fun v32=>
   bnd (faV 1 (.ptr 0 1 0 2)) fun v33=>
   bnd (ld1 h v33) fun v34=>
   cal (CX Y).p h (.fn F.bj [] []) [v32,v34] fun v35 h=>
   cal (CX Y).p h (.fn F.cO [] []) [v30,v35] fun v36 h=>
   bnd (faV 1 (.ptr 0 1 0 2)) fun v37=>
   bnd (ld1 h v37) fun v38=>
   bnd (faV 1 (.ptr 1 1 0 2)) fun v39=>
   bnd (ld1 h v39) fun v40=>
   cal (CX Y).p h (.fn F.bj [] []) [v38,v40] fun v41 h=>
   cal (CX Y).p h (.fn F.bZ [] []) [v36,v41] fun v42 h=>
   stD h 2 (.ptr 2 1 0 2) v42 fun _ h=>
   bnd (ldA h 2 (.ptr 2 1 0 2)) fun v44=>
   out (.agg [S x,S y]) v44 h:=by
  intro _;simp;refine cd m1 ?_;simp;refine cd m2 ?_;simp;refine cd ad ?_;simp;refine cd m3 ?_;simp;refine cd lw ?_;simp;exact lF rfl rfl
 have hne:¬(ah a.2=[49]∧ah b.2=[49]):=fun h=>one ⟨pR (h.1.trans gU.symm),pR (h.2.trans gU.symm)⟩
 have walk:∀u:Unit,bnd (ldA [(1,.vars [S (itoa a.1),S (ah a.2)]),(1,.vars [S (itoa b.1),S (ah b.2)]),(1,.vars [.d (.str []),.d (.str [])])] 2 (.ptr 0 1 0 2)) fun v19=>
  cal (CX Y).p [(1,.vars [S (itoa a.1),S (ah a.2)]),(1,.vars [S (itoa b.1),S (ah b.2)]),(1,.vars [.d (.str []),.d (.str [])])] (.fn F.eD [] []) [v19] fun v20 h=>
  ext v20 0 fun v21=>
  ext v20 1 fun v22=>
  ext v20 2 fun v23=>
  jn (fun l24 h=>
   bnd (faV 0 (.ptr 0 1 0 2)) fun v26=>
   bnd (ld1 h v26) fun v27=>
   bnd (faV 1 (.ptr 1 1 0 2)) fun v28=>
   bnd (ld1 h v28) fun v29=>
   cal (CX Y).p h (.fn F.bj [] []) [v27,v29] fun v30 h=>
   bnd (faV 0 (.ptr 1 1 0 2)) fun v31=>
   bnd (ld1 h v31) fun v32=>
   bnd (faV 1 (.ptr 0 1 0 2)) fun v33=>
   bnd (ld1 h v33) fun v34=>
   cal (CX Y).p h (.fn F.bj [] []) [v32,v34] fun v35 h=>
   cal (CX Y).p h (.fn F.cO [] []) [v30,v35] fun v36 h=>
   bnd (faV 1 (.ptr 0 1 0 2)) fun v37=>
   bnd (ld1 h v37) fun v38=>
   bnd (faV 1 (.ptr 1 1 0 2)) fun v39=>
   bnd (ld1 h v39) fun v40=>
   cal (CX Y).p h (.fn F.bj [] []) [v38,v40] fun v41 h=>
   cal (CX Y).p h (.fn F.bZ [] []) [v36,v41] fun v42 h=>
   stD h 2 (.ptr 2 1 0 2) v42 fun _ h=>
   bnd (ldA h 2 (.ptr 2 1 0 2)) fun v44=>
   out (.agg [S x,S y]) v44 h) fun q25=>
   cnd v23 (
    bnd (ldA h 2 (.ptr 1 1 0 2)) fun v45=>
    cal (CX Y).p h (.fn F.eD [] []) [v45] fun v46 h=>
    ext v46 0 fun v47=>
    ext v46 1 fun v48=>
    ext v46 2 fun v49=>
    cnd v49 (
     bnd (biI .mul v21 v48) fun v50=>
     bnd (biI .mul v47 v22) fun v51=>
     bnd (biI .add v50 v51) fun v52=>
     bnd (biI .mul v22 v48) fun v53=>
     cal (CX Y).p h (.fn F.iM [] []) [v52,v53] fun v54 h=>
     stD h 2 (.ptr 2 1 0 2) v54 fun _ h=>
     bnd (ldA h 2 (.ptr 2 1 0 2)) fun v56=>
     out (.agg [S x,S y]) v56 h) (
     q25 [] h)) (
    q25 [] h):=by
  intro _;simp;refine cd b1 ?_ (G4 ..);cases g1:decide (sdg a.1<=9)&&decide (ndg a.2<=9)with
  | false=>
   simp;refine bB ?_;simp
   simp_all
  | true=>
   simp only[Z8,decide_eq_true_eq]at g1;obtain⟨s1,s2⟩:=G6 g1.1 g1.2;rw[if_pos g1.1,if_pos g1.2];simp;refine bB ?_;simp;refine cd b2 ?_ (G4 ..);cases g2:decide (sdg b.1<=9)&&decide (ndg b.2<=9)with
   | false=>
    simp
    simp_all
   | true=>
    simp only[Z8,decide_eq_true_eq]at g2;obtain⟨s3,s4⟩:=G6 g2.1 g2.2;rw[if_pos g2.1,if_pos g2.2];have p1:(a.1*b.2).natAbs<1000000000*1000000000:=by rw[Y2,Int.natAbs_natCast];exact Yl s1 s4
    have p3:(b.1*a.2).natAbs<1000000000*1000000000:=by rw[Y2,Int.natAbs_natCast];exact Yl s3 s2
    have p2:a.2*b.2<1000000000*1000000000:=Yl s2 s4;have e2:(a.2:Int)*(b.2:Int)=((a.2*b.2:Nat):Int):=ae;have ff:=ff aa aa;obtain⟨N,hN⟩:∃N,a.1*(b.2:Int)=N:=⟨_,rfl⟩;obtain⟨M,hM⟩:∃M,b.1*(a.2:Int)=M:=⟨_,rfl⟩;rw[hN]at p1 ff;rw[hM]at p3 ff;generalize a.2*b.2=D at *;simp(disch:=try exact ac)[e2,hN,hM];refine cd ff ?_;simp
    simp[lF]
 by_cases c1:ah a.2=[49]
 .have c2:¬ah b.2=[49]:=fun h=>hne ⟨c1,h⟩
  simp[eM,c1,c2]
  simp_all
 .simp[eM,c1]
  simp_all
theorem QK(a:Q):CP Y F.iN [.agg (qT a)] (I (sgn a.1)):=by refine Bo ?_;simp[iN,qT];refine cd (oY a.1) ?_;exact bP rfl
theorem Se(z:Int):sgn z=0↔z=0:=by
 unfold sgn;constructor
 .intro h;split at h
  .assumption
  .split at h<;>omega
 .intro h;rw[if_pos h]
theorem JQ{a b:LuQ}:out (.tup [.agg [S a,S b],I c]) (.tup [.agg [S a,S b],I c]) h:=⟨h,by simp[bg,aA,norm]⟩
theorem UB{n d:Int}(hd:d≠0)(hn:ndg n.natAbs<800000)(hd2:ndg d.natAbs<800000):CP Y F.nI [S (itoa n),S (itoa d)] (.tup [.agg (qT (wH n d)),I 0]):=by
 refine DV ?_;have sg0:=oY d;have hs:¬sgn d=0:=fun h=>hd ((Se _).1 h)
 have lw:=Gf hd hn hd2;obtain⟨x,y,hxy⟩:∃x y,qT (wH n d)=[S x,S y]:=⟨_,_,rfl⟩;rw[hxy]at lw ⊢;generalize sgn d=sb at *;simp[nI];refine cd sg0 ?_;simp[hs];refine cd lw ?_;simp;exact JQ
theorem HF(h1 : -9223372036854775808<z)(h2:z<9223372036854775808):ndg z.natAbs<=19:=cQ aa af
theorem KG{n d:Int}(hd:d≠0)(h1 : -9223372036854775808<n)(h2:n<9223372036854775808)(h3 : -9223372036854775808<d)(h4:d<9223372036854775808):CP Y F.kM [I n,I d] (.tup [.agg (qT (wH n d)),I 0]):=by refine E6 ?_;have nw:=UB (n:=n) hd (Zj (HF h1 h2) af) (Zj (HF h3 h4) af);obtain⟨x,y,hxy⟩:∃x y,qT (wH n d)=[S x,S y]:=⟨_,_,rfl⟩;rw[hxy]at nw ⊢;simp[kM];refine cd (kr h1 h2) ?_;simp;refine cd (kr h3 h4) ?_;simp;refine cd nw ?_;simp;exact JQ
@[simp] theorem acZ (f:α->D)(l:List α)(place:Nat->Option (Nat×Nat))(cs:LwQ)(r:List (Nat×V))(off sz:Nat):
  KN (some (off,sz)) place cs (lst f l) r=if 1=sz∧off+1<=cs.length then sd place (cs.take off++[lst f l]++cs.drop (off+1)) r else none:=id rfl
theorem aag(s:LuQ):CP Y F.eQ [S s] (S (rdT s)):=by refine Az ?_;simp[eQ];refine cd (u7 s) ?_;simp<;>exact eU rfl
theorem FU(a b:LuQ)(ha:a.length<1000000000)(hb:b.length<1000000000):CP Y F.mR [.agg [S a,S b]] (B (ve a&&decide (b.length<=30))):=by
 refine G9 ?_;simp[mR];refine cd (aag a) ?_;have hl:(rdT a).length<=a.length:=by unfold rdT;split<;>simp
 by_cases h1:(rdT a).length<=30
 .have h1':((rdT a).length:Int)<=30:=aa;by_cases h2:b.length<=30
  .have h2':(b.length:Int)<=30:=aa;simp[h1',h2']<;>exact cx (by grind[ve])
  .have h2':¬(b.length:Int)<=30:=aa;simp[h1',h2']<;>exact cx (by grind)
 .have h1':¬((rdT a).length:Int)<=30:=aa;simp[h1']<;>exact cx (by simp[ve,h1])
def sz4(x:Tx):Bool:=ve x.1&&decide (x.2.length<=30)
def Cw:List Tx->Int
 |[]=>0
 |x::q=>cond (rdF x.1 x.2).isSome (cond (sz4 x) (Cw q) 4) 2
theorem CE{s:List Tx}(hN:s.length<1000000000)(hl:∀x∈s,x.1.length<1000000000∧x.2.length<1000000000)(k:KL):∀(q a:List Tx),a++q=s->(Cw q=0->k (.exit 0) [] [nnQ])->(Cw q≠0->∀h,k .ret [I (Cw q)] h) ->
  lp (pZ (CX Y) (oQ aV s) (I s.length)) [0] [nnQ] [I a.length] [nnQ] k
 | []=>by
  intro a ha h0 h1;simp at ha;subst ha;refine ai ?_;simp[pZ];exact h0 rfl
 | x::q=>by
  intro a ha h0 h1;have hal:a.length<s.length:=by subst ha;simp
  have hx:nth ([],[]) s a.length=x:=by subst ha;simp
  have hxl:=hl x (by grind);have e1:=fun h:Hp=>j9 aV ba s h (k:=.i64) (i:=(a.length:Int)) aa aa
  have e2:=fun h:Hp=>kY aV ba ([],[]) s h hal
  simp only[hx,Int.toNat_natCast]at e1 e2;have ih:=CE hN hl k q (a++[x]) (by grind);refine ai ?_;simp(disch:=try exact ac)[pZ,e1,e2,aV];refine cd (wu x.1 x.2 hxl.1 hxl.2) ?_;cases g3:(rdF x.1 x.2).isSome with
  | false=>
   simp only[Cw,g3,cond_false]at h1;simp[g3]
   grind
  | true=>
   simp[g3];refine cd (FU x.1 x.2 hxl.1 hxl.2) ?_;cases g1:sz4 x with
   | false=>
    simp only[Cw,g3,g1,cond_true,cond_false]at h1;rw[show(ve x.1&&decide (x.2.length<=30))=false from g1];simp
    grind
   | true=>
    simp only[Cw,g3,g1,cond_true]at h0 h1;have:=ih h0 h1;rw[show(ve x.1&&decide (x.2.length<=30))=true from g1];simp(disch:=try exact ac)[clean,iZ,qe,o6,gN,aR]
    simp_all
def scB(n:Nat)(s:List Tx):Int:=if s.length=n then Cw s else 5
theorem Jk{s:List Tx}(hl:∀x∈s,x.1.length<1000000000∧x.2.length<1000000000)(hs:s.length<1000000000):CP Y F.kW [lst di p,oQ aV s] (I (scB p.length s)):=by
 have lp':aW (lst di p)=some (I p.length):=rfl;have ls':aW (oQ aV s)=some (I s.length):=rfl;refine Ha ?_;by_cases h1:s.length=p.length
 .have h1':((s.length:Int)=(p.length:Int))=True:=eq_true aa;have e:scB p.length s=Cw s:=if_pos h1;rw[e];simp[kW,lp',ls',h1'];refine lo (CE hs hl _ s [] rfl (fun g=>?_) (fun g h=>?_))
  .simp_all
  simp
 .have h1':¬((s.length:Int)=(p.length:Int)):=aa;have e:scB p.length s=5:=if_neg h1;rw[e];simp[kW,lp',ls',h1']<;>exact bP rfl
def siB(p:LiQ)(s:List Tx):Int:=if pcB p=0 then scB p.length s else pcB p
theorem Sd{s:List Tx}(hp:p.length<1000000000)(hl:∀x∈s,x.1.length<1000000000∧x.2.length<1000000000)(hs:s.length<1000000000):CP Y F.mS [lst di p,oQ aV s] (I (siB p s)):=by
 refine He ?_;simp[mS];refine cd (lT hp) ?_;by_cases h:pcB p=0
 .have e:siB p s=scB p.length s:=if_pos h;rw[e];simp[h];refine cd (Jk hl hs) ?_;simp<;>exact bP rfl
 .have e:siB p s=pcB p:=if_neg h;rw[e];simp[h]<;>exact bP rfl
end Go.Vm
