/- Lemmas. -/
import Derived.Test.YthjogmhfdpaaaaaGreatDoorQLaJ
set_option linter.unusedVariables false
set_option linter.unusedSimpArgs false
open Option renaming some->Wf,none->Vc
open Bool renaming true->Th,false->SM
open Go renaming IntKind->iK
open List renaming replicate->So,length->RW
namespace Go.Vm
open Go Go.Am Go.Big
variable{x d n k E G i Bd j A:Nat}{ts:List (Int×Int)}{DM z c':Int}{s f:List Q}{L r P y t:aw}{m:Mz}{e:List (Int×Nat)}
abbrev UN(n:Nat):V:=.d (.int .u64 (n:Int))
theorem OD{a:Nat}(h:a<18446744073709551616):aD .and (UN a) (UN 4294967295)=Wf (UN (a%4294967296)):=by
 have ea:(BitVec.ofInt 64 (a:Int)).toNat=a:=by simp[BitVec.toNat_ofInt];omega
 have eb:(BitVec.ofInt 64 ((4294967295:Nat):Int)).toNat=4294967295:=by rfl
 have hm:a&&&4294967295=a%4294967296:=Nat.and_two_pow_sub_one_eq_mod a 32;have e:(BitVec.ofInt 64 (a:Int)&&&BitVec.ofInt 64 ((4294967295:Nat):Int)).toNat=a%4294967296:=by rw[BitVec.toNat_and,ea,eb,hm]
 show jq (Wf (Value.int .u64 (iK.wrap .u64 ((BitVec.ofInt 64 (a:Int)&&&BitVec.ofInt 64 ((4294967295:Nat):Int)).toNat:Int))))=_
 rw[e,wrap_u64 aa];rfl
theorem ahK{a b:Nat}(ha:a<18446744073709551616)(hb:b<18446744073709551616):aD .or (UN a) (UN b)=Wf (UN (a|||b)):=by
 have h:a|||b<2^64:=Nat.or_lt_two_pow (n:=64) ha hb;have ea:(BitVec.ofInt 64 (a:Int)).toNat=a:=by simp[BitVec.toNat_ofInt];omega
 have eb:(BitVec.ofInt 64 (b:Int)).toNat=b:=by simp[BitVec.toNat_ofInt];omega
 have e:(BitVec.ofInt 64 (a:Int)|||BitVec.ofInt 64 (b:Int)).toNat=a|||b:=by rw[BitVec.toNat_or,ea,eb]
 show jq (Wf (Value.int .u64 (iK.wrap .u64 ((BitVec.ofInt 64 (a:Int)|||BitVec.ofInt 64 (b:Int)).toNat:Int))))=_
 rw[e,wrap_u64 aa];rfl
theorem CJ(a:Nat):aD .shr (UN a) (UN 32)=Wf (UN (a/4294967296)):=by
 have:=FF (k:=.u64) (l:=.u64) (a:=a) (b:=32) au
 rwa [show(2:Nat)^32=4294967296 from rfl]at this
theorem ais(a b:Nat):aD .mul (UN a) (UN b)=Wf (UN (a*b%18446744073709551616)):=by
 have:iK.wrap .u64 ((a:Int)*b)=((a*b%18446744073709551616:Nat):Int):=by
  rw[<-Int.natCast_mul];unfold iK.wrap;simp[iK.bits,iK.signed]
 rw[zd,this]
theorem aiw(x0 x1 y0 y1 B:Nat)(hB:0<B):(x1*B+x0)*(y1*B+y0)/(B*B)=x1*y1+(x1*y0+x0*y0/B)/B+((x1*y0+x0*y0/B)%B+x0*y1)/B:=by
 have e:(x1*B+x0)*(y1*B+y0)=x0*y0+B*(x1*y0+x0*y1+B*(x1*y1)):=by
  simp only[Nat.add_mul,Zm];have e1:x1*B*(y1*B)=B*(B*(x1*y1)):=by simp only[Zp,Y2]
  have e2:x1*B*y0=B*(x1*y0):=by simp only[Zp,Y2]
  have e3:x0*(y1*B)=B*(x0*y1):=by simp only[Zp,Y2]
  rw[e1,e2,e3];omega
 rw[e,<-Xm,Ya _ _ hB];generalize x0*y0/B=c;have e2:c+(x1*y0+x0*y1+B*(x1*y1))=(x1*y0+c+x0*y1)+B*(x1*y1):=aa;rw[e2,Ya _ _ hB];generalize x1*y0+c=t;have e3:t+x0*y1=(t%B+x0*y1)+B*(t/B):=by have:=Xp t B;omega
 rw[e3,Ya _ _ hB];omega
theorem aix{a b:Nat}(ha:a<18446744073709551616)(hb:b<18446744073709551616):Ds F.qM [UN a,UN b] (.tup [UN (a*b/18446744073709551616),UN (a*b%18446744073709551616)]):=by
 apply TT;have⟨x0,hx0⟩:=bD (a%4294967296);have⟨x1,hx1⟩:=bD (a/4294967296);have⟨y0,hy0⟩:=bD (b%4294967296);have⟨y1,hy1⟩:=bD (b/4294967296);have bx0:x0<=4294967295:=aa;have bx1:x1<=4294967295:=aa;have by0:y0<=4294967295:=aa;have by1:y1<=4294967295:=aa
 have m00:x0*y0<=4294967295*4294967295:=Zr bx0 by0;have m10:x1*y0<=4294967295*4294967295:=Zr bx1 by0;have m01:x0*y1<=4294967295*4294967295:=Zr bx0 by1;have m11:x1*y1<=4294967295*4294967295:=Zr bx1 by1;have e:=aiw x0 x1 y0 y1 4294967296 au;rw[show x1*4294967296+x0=a by omega,show y1*4294967296+y0=b by omega]at e
 have hab:a*b/(4294967296*4294967296)<=18446744073709551615:=by
  have:a*b<=18446744073709551615*18446744073709551615:=Zr aa aa;omega
 have q1:=GU (a:=x0) (b:=y0) aa;have q2:=GU (a:=x1) (b:=y0) aa;have q3:=B4 (a:=x1*y0) (b:=x0*y0/4294967296) aa;have q4:=OD (a:=x1*y0+x0*y0/4294967296) aa;have q5:=GU (a:=x0) (b:=y1) aa;have q6:=B4 (a:=(x1*y0+x0*y0/4294967296)%4294967296) (b:=x0*y1) aa;have q7:=GU (a:=x1) (b:=y1) aa
 have q8:=B4 (a:=x1*y1) (b:=(x1*y0+x0*y0/4294967296)/4294967296) aa;have q9:=B4 (a:=x1*y1+(x1*y0+x0*y0/4294967296)/4294967296) (b:=((x1*y0+x0*y0/4294967296)%4294967296+x0*y1)/4294967296) aa;have r1:=OD ha;have r2:=OD hb;have r3:=CJ a;have r4:=CJ b;rw[<-hx0]at r1;rw[<-hy0]at r2;rw[<-hx1]at r3;rw[<-hy1]at r4
 have r1':aD .and (UN a) (.d (.int .u64 4294967295))=Wf (UN x0):=r1;have r2':aD .and (UN b) (.d (.int .u64 4294967295))=Wf (UN y0):=r2;have r3':aD .shr (UN a) (.d (.int .u64 32))=Wf (UN x1):=r3;have r4':aD .shr (UN b) (.d (.int .u64 32))=Wf (UN y1):=r4;have s1:aD .shr (UN (x0*y0)) (.d (.int .u64 32))=Wf (UN (x0*y0/4294967296)):=CJ _
 have q4':aD .and (UN (x1*y0+x0*y0/4294967296)) (.d (.int .u64 4294967295))=Wf (UN ((x1*y0+x0*y0/4294967296)%4294967296)):=q4;have s2:aD .shr (UN (x1*y0+x0*y0/4294967296)) (.d (.int .u64 32))=Wf (UN ((x1*y0+x0*y0/4294967296)/4294967296)):=CJ _
 have s3:aD .shr (UN ((x1*y0+x0*y0/4294967296)%4294967296+x0*y1)) (.d (.int .u64 32))=Wf (UN (((x1*y0+x0*y0/4294967296)%4294967296+x0*y1)/4294967296)):=CJ _;have mw:=ais a b;simp only[qM,r1',r2',r3',r4',BU,q1,q2,s1,q3,q4',s2,q5,q6,q7,q8,s3,q9,mw];rw[<-e];exact fR rfl rfl
theorem aoi(A B:Prop):aQ (.d (.bool Th)) A B=A:=rfl
theorem ZZ(A B:Prop):aQ (.d (.bool SM)) A B=B:=rfl
def j5:Nat:=4611686018427387904
def jf:Nat:=9223372036854775808
def uv:Nat->Nat->Nat->Nat->Option Nat
 |0,_,_,out=>Wf out
 | r+1,low,high,out=>
  cond (Nat.ble jf (low*low/j5)) (uv r (low*low/j5/2) ((high*high/j5+1)/2+1) (out*2+1))
   (cond (Nat.ble jf (high*high/j5+1)) Vc (uv r (low*low/j5) (high*high/j5+1) (out*2)))
def uw(p:Nat):Option Nat:=uv 26 (p*2^(62-(cQ p-1))) (p*2^(62-(cQ p-1))) (cQ p-1)
def DY:Option Nat->V
 |some a=>.tup [I a,B Th]
 |none=>.tup [I 0,B SM]
theorem JR(h:x<jf):x*x/j5<=18446744073709551612:=by have:x*x<=(jf-1)*(jf-1):=Zr aa aa;exact Z1 (Nat.div_le_div_right this) au
theorem adZ(h:x<jf):x*x/18446744073709551616*4|||x*x%18446744073709551616/j5=x*x/j5:=by
 have h1:x*x%18446744073709551616/j5<2^2:=by unfold j5;omega
 have:=Nat.two_pow_add_eq_or_of_lt h1 (x*x/18446744073709551616);rw[show(2:Nat)^2=4 from rfl,Zp]at this;rw[<-this];unfold j5;omega
theorem WY(h:x<jf):∃a b:Nat,Ds F.qM [UN x,UN x] (.tup [UN a,UN b])∧aD .shl (UN a) (.d (.int .u64 2))=Wf (UN (a*4))∧aD .shr (UN b) (.d (.int .u64 62))=Wf (UN (b/j5))∧aD .or (UN (a*4)) (UN (b/j5))=Wf (UN (x*x/j5)):=by
 have hx:x<18446744073709551616:=by unfold jf at h;omega
 have Fm:=JR h;have ha:x*x/18446744073709551616*4<18446744073709551616:=by unfold j5 at Fm;omega
 refine⟨x*x/18446744073709551616,x*x%18446744073709551616,aix hx hx,?_,?_,?_⟩
 .rw[aaG aa au]
  have:iK.wrap .u64 (((x*x/18446744073709551616:Nat):Int)*2^(2:Int).toNat)=((x*x/18446744073709551616*4:Nat):Int):=by
   rw[show(2:Int)^(2:Int).toNat=4 from rfl,show((x*x/18446744073709551616:Nat):Int)*4=((x*x/18446744073709551616*4:Nat):Int) by rw[Int.natCast_mul];rfl];exact wrap_u64 ⟨aa,aa⟩
  rw[this]
 .exact FF (k:=.u64) (l:=.u64) (a:=x*x%18446744073709551616) (b:=62) au
 .rw[ahK ha (by unfold j5;omega),adZ h]
theorem M3(k:KL):∀(r low high out:Nat),r<=26->low<jf->high<jf->out<2^(31-r) ->
  (∀a,uv r low high out=Wf a->k (.exit 0) [I a] [])->(uv r low high out=Vc->k .ret [I 0,B SM] []) ->
  lp (FA DA) [] [] [UN low,UN high,I out,I ((26-r:Nat):Int)] [] k
 | 0,low,high,out,hr,hl,hh,ho,h0,h1=>by
  apply aL;simp[FA];exact h0 out rfl
 | r+1,low,high,out,hr,hl,hh,ho,h0,h1=>by
  have g1:((26-(r+1):Nat):Int)<26:=aa;have⟨a,b,m1,m2,m3,m4⟩:=WY hl;have⟨a',b',n1,n2,n3,n4⟩:=WY hh;have l1:=JR hl;have l2:=JR hh;have ho2:out<2147483648:=Z0 ho (Z2 au (by omega:31-(r+1)<=31));have hpow:2^(31-r)=2^(31-(r+1))*2:=by rw[<-Nat.pow_succ];congr 1;omega
  have hc:((26-(r+1):Nat):Int)+1=((26-r:Nat):Int):=aa;simp only[uv]at h0 h1;have⟨L,hL⟩:=bD (low*low/j5);have⟨M,hM⟩:=bD (high*high/j5);rw[<-hL]at h0 h1 l1 m4;rw[<-hM]at h0 h1 l2 n4;have p1:=B4 (a:=M) (b:=1) aa;have p1':aD .add (UN M) (.d (.int .u64 1))=Wf (UN (M+1)):=p1;apply aL
  have b1:Nat.ble jf L=decide ((9223372036854775808:Int)<=(L:Int)):=by
   rw[X8,dT];refine⟨λh=>?_,λh=>Nat.ble_eq_true_of_le (by unfold jf;omega)⟩;have:=Nat.le_of_ble_eq_true h;unfold jf at this;omega
  have b2:Nat.ble jf (M+1)=decide ((9223372036854775808:Int)<=((M+1:Nat):Int)):=by
   rw[X8,dT];refine⟨λh=>?_,λh=>Nat.ble_eq_true_of_le (by unfold jf;omega)⟩;have:=Nat.le_of_ble_eq_true h;unfold jf at this;omega
  have s1:aD .shr (UN L) (.d (.int .u64 1))=Wf (UN (L/2)):=FF (k:=.u64) (l:=.u64) (a:=L) (b:=1) au;have s2:aD .shr (UN (M+1)) (.d (.int .u64 1))=Wf (UN ((M+1)/2)):=FF (k:=.u64) (l:=.u64) (a:=M+1) (b:=1) au;have p2:=B4 (a:=(M+1)/2) (b:=1) aa;have p2':aD .add (UN ((M+1)/2)) (.d (.int .u64 1))=Wf (UN ((M+1)/2+1)):=p2;rw[b1,b2]at h0 h1
  have⟨N1,hN1⟩:=bD (M+1);rw[<-hN1]at h0 h1 p1' s2 p2';have⟨HL,hHL⟩:=bD (L/2);have⟨HM,hHM⟩:=bD (N1/2+1);rw[<-hHL]at h0 h1 s1;rw[<-hHM]at h0 h1 p2';simp(disch:=omega) [FA,g1];apply cx;simp;refine cd m1 ?_;simp[m2,m3,m4];refine cd n1 ?_;simp(disch:=try exact cj)[n2,n3,n4,p1']
  by_cases c1:(9223372036854775808:Int)<=(L:Int)
  .have ih:=M3 k r HL HM (out*2+1) aa (by unfold jf;omega) (by unfold jf;omega) aa;rw[decide_eq_true c1]at h0 h1;have:=ih h0 h1;rw[decide_eq_true c1];apply cx;refine Eq.mpr (aoi _ _) ?_;simp(disch:=omega) [s1,s2,p2',hc];have e25:((25-r:Nat):Int)+1=((26-r:Nat):Int):=aa;rw[e25];rw[show((out*2+1:Nat):Int)=(out:Int)*2+1 by omega]at this
   exact this
  .rw[decide_eq_false c1]at h0 h1;by_cases c2:(9223372036854775808:Int)<=(N1:Int)
   .rw[decide_eq_true c2]at h0 h1;rw[decide_eq_false c1];apply cx;refine Eq.mpr (ZZ _ _) ?_;simp[c2];exact h1 rfl
   .have ih:=M3 k r L N1 (out*2) aa (by unfold jf;omega) (by unfold jf;omega) aa;rw[decide_eq_false c2]at h0 h1;have:=ih h0 h1;rw[decide_eq_false c1];apply cx;refine Eq.mpr (ZZ _ _) ?_;simp(disch:=omega) [c2,hc];have e25:((25-r:Nat):Int)+1=((26-r:Nat):Int):=aa;rw[e25];rw[show((out*2:Nat):Int)=(out:Int)*2 by omega]at this;exact this
theorem fast_ok{p:Nat}(hp:2<=p)(hp2:p<1000000):Ds F.Ae [I p] (DY (uw p)):=by
 apply afk;have⟨hk0,hpk,hk1⟩:=GT (n:=p) aa
 have hk20:cQ p<=20:=by
  have:2^(cQ p-1)<2^20:=aa;have:=(Ys (by decide:1<2)).1 this;omega
 have c1:fq .u64 (I p)=Wf (UN p):=anY aa;have lb:=UM (n:=p) aa
 have hb:p*2^(62-(cQ p-1))<jf:=by
  have h1:p<2^cQ p:=aa;have h2:p*2^(62-(cQ p-1))<2^cQ p*2^(62-(cQ p-1)):=Nat.mul_lt_mul_of_pos_right h1 (Xr au);rw[<-Yq,show cQ p+(62-(cQ p-1))=63 by omega]at h2;exact h2
 have sl:aD .shl (UN p) (I ((62:Int)-((cQ p:Int)-1)))=Wf (UN (p*2^(62-(cQ p-1)))):=by
  rw[aaG aa (by show _<=64;omega)];have e1:((62:Int)-((cQ p:Int)-1)).toNat=62-(cQ p-1):=aa;rw[e1];have e2:(p:Int)*2^(62-(cQ p-1))=((p*2^(62-(cQ p-1)):Nat):Int):=by rw[Int.natCast_mul,Int.natCast_pow];rfl
  rw[e2,wrap_u64 ⟨aa,by unfold jf at hb;omega⟩]
 have g:=M3 (aV [((.exit 0),λl7 h=>out (DY (uw p)) (.tup [(ge l7 0),(.d (.bool Th))]) h),(.ret,λl7 h=>out (DY (uw p)) (.tup [(ge l7 0),(ge l7 1)]) h)]) 26 (p*2^(62-(cQ p-1))) (p*2^(62-(cQ p-1))) (cQ p-1) au hb hb (by show _<2^5;omega) (λa ha=>by
   have:uw p=Wf a:=ha;rw[this];simp;exact fR rfl rfl) (λha=>by
   have:uw p=Vc:=ha;rw[this];simp;exact fR rfl rfl)
 have hk:((cQ p-1:Nat):Int)=(cQ p:Int)-1:=aa;rw[hk]at g;simp[Ae,c1];refine cd lb ?_;generalize p*2^(62-(cQ p-1))=P at *;simp(disch:=omega) [sl];exact g
theorem M4:∀(r low high out a:Nat),uv r low high out=Wf a->a<(out+1)*2^r
 |0,low,high,out,a,h=>by grind[uv]
 | r+1,low,high,out,a,h=>by
  have e:∀x:Nat,(x+1)*2^(r+1)=(2*x+2)*2^r:=λx=>by grind
  rw[e];simp only[uv]at h;cases c1:Nat.ble jf (low*low/j5)with
  | true=>
   rw[c1]at h;have:=M4 r _ _ _ a h
   rwa [show out*2+1+1=2*out+2 by omega]at this
  | false=>
   rw[c1]at h;cases c2:Nat.ble jf (high*high/j5+1)with
   |true=>grind
   | false=>
    rw[c2]at h;have:=M4 r _ _ _ a h;exact Z0 this (Zu _ aa)
theorem al8{p a:Nat}(hp:2<=p)(hp2:p<1000000)(h:uw p=Wf a):a<1342177280:=by
 have⟨hk0,hpk,hk1⟩:=GT (n:=p) aa
 have hk20:cQ p<=20:=by
  have:2^(cQ p-1)<2^20:=aa;have:=(Ys (by decide:1<2)).1 this;omega
 have:=M4 _ _ _ _ _ h;have h2:(cQ p-1+1)*2^26<=20*2^26:=Zu _ aa;omega
theorem air(x y:Int):jP SM x y=min x y:=by grind[jP]
theorem LC(x y:Int):jP Th x y=max x y:=by grind[jP]
def oZ(DM:Int):List (Int×Int)->Int×Int->Option (Int×Int)
 |[],a=>Wf a
 | t::ts,a=>if DM<t.2∨t.2 < -DM then Vc else match uw t.1.toNat with
  |none=>Vc
  | some f=>
   let b:Int:=if t.1=2 then f else f+1
   oZ DM ts (a.1+min (t.2*f) (t.2*b),a.2+max (t.2*f) (t.2*b))
def vZ:Option (Int×Int)->V
 |some a=>.tup [I a.1,I a.2,B Th]
 |none=>.tup [I 0,I 0,B SM]
def jI(ts:List (Int×Int))(d:Nat)(n lo hi:Int)(b:Bool):Hp:=[(1,.vars ((iu ts d).map .d)),(1,.vars [I n]),(1,.vars [I lo]),(1,.vars [I hi]),(1,.vars [B b])]
theorem PM{d:Nat}{DM:Int}(hm0:0<=DM)(hm:DM<=10000000){tt:List (Int×Int)}(k:Exit->Hp->Prop)(h0:Hp)(hh:RW h0=5):∀(ts:List (Int×Int))(lo hi B:Int),(∀t∈ts,2<=t.1∧t.1<1000000∧t.2.natAbs<9223372036854775808)->B+RW ts*13421772810000000<=9000000000000000000->-B<=lo->lo<=B->-B<=hi->hi<=B ->
  (∀a,oZ DM ts (lo,hi)=Wf a->k .normal (jI tt d DM a.1 a.2 SM))->(oZ DM ts (lo,hi)=Vc->k .ret (jI tt d DM 0 0 SM)) ->
  rg 2 (vp DA (.ptr 1 1 0 1) (.ptr 2 1 0 1) (.ptr 3 1 0 1) (.ptr 4 1 0 1)) [] h0 k (qx ts) (jI tt d DM lo hi SM)
 | [],lo,hi,Bd,hl,hb,h1,h2,h3,h4,hk,hn=>by
  simpa[qx,rg]using hk (lo,hi) rfl
 | t::ts,lo,hi,Bd,hl,hb,h1,h2,h3,h4,hk,hn=>by
  have⟨l1,l2,l3⟩:=hl t ac;have sm:=J0 (z:=t.2) l3;have⟨p,hp⟩:∃p:Nat,t.1=p:=⟨t.1.toNat,aa⟩;have hpn:t.1.toNat=p:=aa;have fa:=fast_ok (p:=p) aa aa;rw[<-hp]at fa;have eL:([.int .i64 t.1,.string ⟨⟨itoa t.2⟩⟩]:am).map (λv=>V.d (dJ v))=[I t.1,S (itoa t.2)]:=rfl;simp only[oZ,hpn]at hk hn
  have Rg:∀x:Hp,RW x=5->dl [] 0 h0 x=x:=λx hx=>xP 0 h0 x aa
  simp only[qx,Zv];refine R5 rfl ?_;rw[eL];by_cases c1:DM<t.2
  .rw[ip (.inl c1)]at hn;simp[vp,jI,iu];refine cd sm ?_ aN
   simp_all[jI,iu]
  .by_cases c2:t.2 < -DM
   .rw[ip (.inr c2)]at hn;simp[vp,jI,iu];refine cd sm ?_ aN;simp(disch:=try exact cj)[c1,c2]
    grind[jI,iu]
   .rw[iN aa]at hn;simp only[show ¬(DM<t.2∨t.2 < -DM) by omega,iF]at hk;cases hf:uw p with
    | none=>
     rw[hf]at fa hn;simp[vp,jI,iu];refine cd sm ?_ aN;simp(disch:=try exact cj)[c1,c2];refine cd fa ?_
     simp_all[DY,jI,iu]
    | some f=>
     have hflt:=al8 aa aa hf;rw[hf]at fa hk hn;simp only at hk hn;have⟨b,hb'⟩:∃b:Int,b=(if t.1=2 then(f:Int)else f+1):=⟨_,rfl⟩;rw[<-hb']at hk hn;have hbb:(f:Int)<=b∧b<=f+1:=by subst hb';split<;>omega
     have⟨x,hx⟩:∃x:Int,x=t.2*f:=⟨_,rfl⟩;have⟨y,hy⟩:∃y:Int,y=t.2*b:=⟨_,rfl⟩
     have bd:∀z:Int,0<=z->z<=1342177281->-13421772810000000<=t.2*z∧t.2*z<=13421772810000000:=by
      intro z hz0 hz;have a1:t.2*z<=10000000*z:=Y0 aa hz0;have a2:(-10000000)*z<=t.2*z:=Y0 aa hz0;omega
     have bx:=bd f aa aa;have Nd:=bd b aa aa;rw[<-hx]at bx hk hn;rw[<-hy]at Nd hk hn;have ih:=PM (tt:=tt) (d:=d) hm0 hm k h0 hh ts (lo+min x y) (hi+max x y) (Bd+13421772810000000) (λt ht=>hl t ae) ae aa aa aa aa hk hn;simp at hb
     have m1:aD .mul (I t.2) (I (f:Int))=Wf (I x):=by rw[zd,<-hx,wrap_i64 ⟨aa,aa⟩]
     have m2:aD .mul (I t.2) (I b)=Wf (I y):=by rw[zd,<-hy,wrap_i64 ⟨aa,aa⟩]
     have tail:∀q:Exit->Hp->Prop,q .normal (jI tt d DM (lo+min x y) (hi+max x y) SM)->jn (λl26 h=>
       bnd (ld1 h (.ptr 2 1 0 1)) λv28=>
       bnd (aD .mul (I t.2) (I (f:Int))) λv29=>
       bnd (aD .mul (I t.2) (ge l26 0)) λv30=>
       bnd (gk SM [v29,v30]) λv31=>
       bnd (aD .add v28 v31) λv32=>
       bnd (ld1 h (.ptr 3 1 0 1)) λv33=>
       bnd (aD .mul (I t.2) (I (f:Int))) λv34=>
       bnd (aD .mul (I t.2) (ge l26 0)) λv35=>
       bnd (gk Th [v34,v35]) λv36=>
       bnd (aD .add v33 v36) λv37=>
       sp h (.ptr 2 1 0 1) [.ptr 3 1 0 1]<|aS h 1 (.ptr 2 1 0 1) v32 λ_ h=>
       aS h 1 (.ptr 3 1 0 1) v37 λ_ h=>
       q .normal h) λq27=>q27 [I b] (jI tt d DM lo hi SM):=by
      intro q hq;rw[DC (l:=[I b]) (h:=jI tt d DM lo hi SM) (λq=>rfl)];have x1:gk SM [I x,I y]=Wf (I (min x y)):=by simp only[gk,air]
      have x2:gk Th [I x,I y]=Wf (I (max x y)):=by simp only[gk,LC]
      have a1:aD .add (I lo) (I (min x y))=Wf (I (lo+min x y)):=by rw[Ep,wrap_i64 ⟨aa,aa⟩]
      have a2:aD .add (I hi) (I (max x y))=Wf (I (hi+max x y)):=by rw[Ep,wrap_i64 ⟨aa,aa⟩]
      generalize lo+min x y=lo2 at *;generalize hi+max x y=hi2 at *;simp[jI,iu,m1,m2,x1,x2,a1,a2];refine Cv aN ?_;simpa[jI,iu]using hq
     have hne1:aD .add (I (f:Int)) (.d (.int .i64 1))=Wf (I ((f:Int)+1)):=by rw[Ep,wrap_i64 ⟨aa,aa⟩]
     have fin:im [] 0 (jI tt d DM (lo+min x y) (hi+max x y) SM)=Th∧rg 2 (vp DA (.ptr 1 1 0 1) (.ptr 2 1 0 1) (.ptr 3 1 0 1) (.ptr 4 1 0 1)) [] h0 k (qx ts) (dl [] 0 h0 (jI tt d DM (lo+min x y) (hi+max x y) SM)):=by
      rw[Rg _ aN];exact⟨aN,ih⟩
     simp[vp,jI,iu];refine cd sm ?_ aN;simp(disch:=try exact cj)[c1,c2];refine cd fa ?_
     have tl:=tail (λex h'=>match ex with
      |.normal=>im [] 0 h'=Th∧rg 2 (vp DA (.ptr 1 1 0 1) (.ptr 2 1 0 1) (.ptr 3 1 0 1) (.ptr 4 1 0 1)) [] h0 k (qx ts) (dl [] 0 h0 h')
      |ex=>k ex h') fin
     rw[DC (l:=[I b]) (h:=jI tt d DM lo hi SM) (λq=>rfl)]at tl;simp[DY,hne1];refine fE (l:=[I b]) (h:=jI tt d DM lo hi SM) (λq=>?_) ?_
     .by_cases h2':t.1=2
      .rw[ip h2']at hb';rw[decide_eq_true h2',hb'];rfl
      .rw[iN h2']at hb';rw[decide_eq_false h2',hb'];rfl
     trivial
theorem adg(hm0:0<=DM)(hm:DM<=10000000)(hl:∀t∈ts,2<=t.1∧t.1<1000000∧t.2.natAbs<9223372036854775808)(hb:RW ts<=600):Ds F.vq [lF ts d,I DM] (vZ (oZ DM ts (0,0))):=by
 apply ae5;have al:=abd ts d;have DH:Ds F.tE [.agg [.d (.sl (RW ts) (ts.map jH)),.d (.sl (RW ts) (ts.map jU)),S (aA d)]] (.fn F.rS [] [.dptr (iu ts d) 0]):=al
 have nl:=PM (d:=d) (DM:=DM) hm0 hm (tt:=ts) (λex h=>aV [(.ret,λ_ h=>
  bnd (ld1 h (.ptr 2 1 0 1)) λv8=>
  bnd (ld1 h (.ptr 3 1 0 1)) λv9=>
  bnd (ld1 h (.ptr 4 1 0 1)) λv10=>
  out (vZ (oZ DM ts (0,0))) (.tup [v8,v9,v10]) h),
  (.normal,λ_ h=>
   bnd (ld1 h (.ptr 2 1 0 1)) λv11=>
   bnd (ld1 h (.ptr 3 1 0 1)) λv12=>
   sp h (.ptr 2 1 0 1) [.ptr 3 1 0 1]<|aS h 1 (.ptr 2 1 0 1) v11 λ_ h=>
   aS h 1 (.ptr 3 1 0 1) v12 λ_ h=>
   aS h 1 (.ptr 4 1 0 1) (.d (.bool Th)) λ_ h=>
   bnd (ld1 h (.ptr 2 1 0 1)) λv16=>
   bnd (ld1 h (.ptr 3 1 0 1)) λv17=>
   bnd (ld1 h (.ptr 4 1 0 1)) λv18=>
   out (vZ (oZ DM ts (0,0))) (.tup [v16,v17,v18]) h)] ex [] h) (jI ts d DM 0 0 SM) rfl ts 0 0 0 hl aa aa aa aa aa (λa ha=>by
   rw[ha];simp[jI,iu];refine Cv aN ?_;exact nZ rfl rfl rfl) (λha=>by
   rw[ha];simp[jI,iu];exact nZ rfl rfl rfl)
 simp[vq,lF];refine cd DH ?_ aN;simp;refine ro (OV aa d) ?_;trivial
def xV(ts:List (Int×Int)):Prop:=RW ts<=600∧∀t∈ts,2<=t.1∧t.1<1000000∧t.2.natAbs<9223372036854775808
theorem ahS(h:xV ts):∀t∈ts,ay t.2.natAbs<=100000:=λt ht=>
 Z1 (ef (d:=19) (by have:=(h.2 t ht).2.2;omega) au) au
def mb(ts:List (Int×Int)):Int:=match oZ 10000000 ts (0,0)with
 |none=>0
 |some a=>if 0<=a.1 then 1 else if a.2<=0 then -1 else 0
theorem Sv(h:xV ts):Ds F.vn [lF ts d] (I (mb ts)):=by
 apply ae3;have ne:=adg (d:=d) (DM:=10000000) au au h.2 h.1;have ne':Ds F.vq [.agg [.d (.sl (RW ts) (ts.map jH)),.d (.sl (RW ts) (ts.map jU)),S (aA d)],I 10000000] (vZ (oZ 10000000 ts (0,0))):=ne;simp[vn,lF];refine cd ne' ?_ aN;unfold mb;cases oZ 10000000 ts (0,0)with
 | none=>
  simp[vZ]
 | some a=>
  simp only;by_cases c1:0<=a.1
  .simp_all[vZ]
  .rw[iN c1];by_cases c2:a.2<=0
   .simp_all[vZ]
   simp_all[iN,vZ]
def Ha(ts:List (Int×Int)):Prop:=∀i,i<6->LW (64*2^i) ts
def tK(ts:List (Int×Int)):Nat->Nat->Option Int
 |0,_=>Vc
 |r+1,n=>if 0<=(eC n ts (0,0)).1 then Wf 1 else if(eC n ts (0,0)).2<=0 then Wf (-1)else tK ts r (n*2)
def CH(ts:List (Int×Int)):Option Int:=match ts with
 |[]=>Wf 0
 |_=>if mb ts≠0 then Wf (mb ts)else tK ts 6 64
theorem afH(z:Int):0<=eS z↔0<=z:=by unfold eS;split<;>(try split)<;>omega
theorem afG(z:Int):eS z<=0↔z<=0:=by unfold eS;split<;>(try split)<;>omega
theorem Py{ts:List (Int×Int)}{d:Nat}(h:xV ts)(hl:Ha ts)(k:KL)(h0:Hp)(hh:RW h0=1):∀(r i:Nat)(s:Int),i+r=6->tK ts r (64*2^i)=Wf s->(∀h,k .ret [I s] h) ->
  lp (Kf DA (.ptr 0 1 0 3)) [] h0 [I ((64*2^i:Nat):Int)] [(1,.vars ((iu ts d).map .d))] k
 |0,i,s,hi,hs,hk=>by trivial
 | r+1,i,s,hi,hs,hk=>by
  have hn:64*2^i<=3900:=by
   have:2^i<=2^5:=Z2 au aa;omega
  have en:=amm (n:=64*2^i) (d:=d) hn (hl i aa) (ahS h) (by have:=h.1;omega);have en':Ds F.xA [.agg [.d (.sl (RW ts) (ts.map jH)),.d (.sl (RW ts) (ts.map jU)),S (aA d)],I ((64*2^i:Nat):Int)] (.tup [S (itoa (eC (64*2^i) ts (0,0)).1),S (itoa (eC (64*2^i) ts (0,0)).2)]):=en
  have hd:64*2^i*2=64*2^(i+1):=by rw[Nat.pow_succ,<-Nat.mul_assoc]
  simp only[tK,hd]at hs;generalize eC (64*2^i) ts (0,0)=e at *;have ih:=Py (d:=d) h hl k h0 hh r (i+1) s aa;have hm:((64*2^i:Nat):Int)*2=((64*2^(i+1):Nat):Int):=by rw[<-hd];omega
  generalize 64*2^(i+1)=m2 at *;generalize 64*2^i=m at *;have s1:=tJ e.1;have s2:=tJ e.2;have n1:=afH e.1;have n2:=afG e.2;apply aL;simp[Kf,iu];refine cd en' ?_ aN;simp;refine cd s1 ?_ aN;by_cases c1:0<=e.1
  .simp_all
  .rw[iN c1]at hs;have c1':¬0<=eS e.1:=λx=>c1 (n1.1 x)
   simp[c1'];refine cd s2 ?_ aN;by_cases c2:e.2<=0
   .simp_all
   .rw[iN c2]at hs;have c2':¬eS e.2<=0:=λx=>c2 (n2.1 x)
    have ih:=ih hs hk;simp(disch:=try exact cj)[c2',hm];exact ih
theorem afz(h:xV ts)(hl:Ha ts)(hs:CH ts=Wf z):Ds F.oN [lF ts d] (I z):=by
 apply QT;have qo:=Sv (d:=d) h;have qo':Ds F.vn [.agg [.d (.sl (RW ts) (ts.map jH)),.d (.sl (RW ts) (ts.map jU)),S (aA d)]] (I (mb ts)):=qo;cases hts:ts with
 | nil=>
  simp_all[CH,oN,lF,bf]
 | cons t r=>
  have MT:¬ts=[]:=by rw[hts];simp
  have hs':(if mb ts≠0 then Wf (mb ts)else tK ts 6 64)=Wf z:=by rw[hts]at hs ⊢;exact hs
  rw[<-hts];have ll:bf (.d (.sl (RW ts) (ts.map jH)))=Wf (I (RW ts)):=rfl;by_cases hq:mb ts=0
  .rw[iN aa]at hs'
   have sl:=Py (d:=d) h hl (aV [(.ret,λl9 h=>out (I z) (ge l9 0) h)]) [(1,.vars ((iu ts d).map .d))] rfl 6 0 z rfl hs' (λh=>by
    simp)
   simp only[iu,Zv,Yp]at sl;rw[hq]at qo';simp[oN,lF,ll,MT];refine cd qo' ?_ aN;trivial
  .rw[ip aa]at hs';simp only[Z9]at hs';subst hs';simp[oN,lF,ll,MT];refine cd qo' ?_ aN;simp[hq]
theorem afA(h:xV ts)(hq:ts≠[]->mb ts≠0):Ds F.oN [lF ts d] (I (if ts=[]then 0 else mb ts)):=by
 apply QT;have qo:Ds F.vn [.agg [.d (.sl (RW ts) (ts.map jH)),.d (.sl (RW ts) (ts.map jU)),S (aA d)]] (I (mb ts)):=Sv (d:=d) h;by_cases MT:ts=[]
 .simp_all[oN,lF,bf]
 .have ll:bf (.d (.sl (RW ts) (ts.map jH)))=Wf (I (RW ts)):=rfl;have hq:=hq MT;rw[iN MT];simp[oN,lF,ll,MT];refine cd qo ?_ aN;simp[hq]
def tq(p:aw)(s:List Q):List (Int×Int):=gz (ky 1 s) p s
def Aj(p:aw)(s:List Q)(z:Int):Prop:=xV (tq p s)∧Ha (tq p s)∧CH (tq p s)=Wf z
def Ak(p:aw)(s:List Q)(z:Int):Prop:=∀d,Ds F.oN [lF (tq p s) d] (I z)
theorem Q3{p:aw}(h:Aj p s z):Ak p s z:=λ_=>afz h.1 h.2.1 h.2.2
theorem aai{p:aw}(hp:d8 p=0)(hN:RW p<1000000)(hl:RW s=RW p)(hs:jN s):Ds F.vw [ai di p,aW s] (I 0):=by
 have:=afy (p:=p) (s:=s.map tx) aa (λx hx=>by
  obtain⟨y,hy,rfl⟩:=Zw.1 hx;have⟨l1,l2⟩:=ER (hs y hy).2;omega) ae
 unfold FE xL at this;rw[ip hp,List.length_map,ip hl,JK hs]at this;exact this
theorem apY{p:aw}(hp:d8 p=0)(hN:RW p<3000)(hl:RW s=RW p)(hs:jN s)(hz:Ak p s z):Ds F.Ag [ai di p,aW s] (.tup [I z,I 0]):=by apply afo;have ck:=aai hp aa hl hs;have to_:=PR (p:=p) (s:=s) (K:=30) aa hl.symm hs aa au;have si:=hz (ky 1 s);simp[Ag];refine cd ck ?_ aN;simp;refine cd to_ ?_ aN;simp;refine cd si ?_ aN;simp[fR]
def kx(p:aw)(a b:List Q):List Q:=gC (RW p) [a,b] [(1,1),(-1,1)]
theorem S7:fJ 1 [(1,1),(-1,1)]:=λx hx=>by
 simp at hx;rcases hx with rfl|rfl
 .exact⟨⟨au,au⟩,ef au au,ef au au⟩
 .exact⟨⟨au,au⟩,ef au au,ef au au⟩
theorem aoc{p:aw}{a b:List Q}(hN:RW p<1000)(ha:RW a=RW p)(hb:RW b=RW p)(oa:jN a)(ob:jN b)(hz:Ak p (kx p a b) z):Ds F.Af [ai di p,aW a,aW b] (I z):=by
 apply afm
 have hab:∀s ∈ [a,b],RW s=RW p∧fJ 30 s:=λs hs=>by
  simp at hs;rcases hs with rfl|rfl
  .trivial
  trivial
 have su:=JN (n:=RW p) (l:=[a,b]) (fs:=[(1,1),(-1,1)]) (Ks:=30) (Kk:=1) aa ac rfl au ac hab S7;have oK:fJ 65 (kx p a b):=JO (Ks:=30) (Kk:=1) (Ko:=1) (EI _) (λs hs=>(hab s hs).2) S7
 have hl:RW (kx p a b)=RW p:=by
  unfold kx gC;rw[u5 (λs hs=>by grind)];simp
 have to_:=PR (p:=p) (s:=kx p a b) (K:=65) aa hl.symm oK aa au;have si:=hz (ky 1 (kx p a b));have l1:∀H,cL 2 [aR] [(0,aW a),(1,aW b)] H=Wf ([bQ a,bQ b],H):=λH=>G6 ..
 have l2:∀H,cL 2 [D.str [],D.str []] [(0,.agg (qT (1,1))),(1,.agg (qT (-1,1)))] H=Wf (bb (tx (1,1))++bb (tx (-1,1)),H):=λH=>ajb (1,1) (-1,1) H
 have l3:bf (ai di p)=Wf (I (RW p)):=rfl;simp[Af,l1,l3];refine cd (GJ (z:=1) aa aa) ?_;simp;refine cd (GJ (z:=-1) aa aa) ?_;simp[l2];refine cd (v:=aW (kx p a b)) su ?_ aN;simp;refine cd to_ ?_ aN;simp;refine cd si ?_ aN;simp
theorem abq{p:aw}{a b:List Q}(hp:d8 p=0)(hN:RW p<1000)(ha:RW a=RW p)(hb:RW b=RW p)(oa:jN a)(ob:jN b)(hz:Ak p (kx p a b) z):Ds F.iM [ai di p,aW a,aW b] (.tup [I z,I 0]):=by
 apply afr
 have ca:=N3 (p:=p) (l:=[a,b]) aa ac (λs hs=>by
  simp at hs;rcases hs with rfl|rfl
  .exact⟨oa,aa⟩
  .exact⟨ob,aa⟩)
 rw [ip hp,IR (n:=RW p) (l:=[a,b]) λs hs=>by
  grind]at ca
 have co:=aoc hN ha hb oa ob hz;have l1:∀H,cL 2 [aR] [(0,aW a),(1,aW b)] H=Wf ([bQ a,bQ b],H):=λH=>G6 ..
 simp[iM,l1];refine cd (v:=I 0) ca ?_ aN;simp;refine cd co ?_ aN;simp[fR]
def pB(z:Int):Int:=max z (-z)*(2*max z 0-1)
def Ev(p:aw)(s:List Q)(z:Int):List Q:=gC (RW p) [s] [(pB z,1)]
theorem abi{p:aw}(hp:d8 p=0)(hN:RW p<1000)(hl:RW s=RW p)(hs:jN s)(hz:Ak p s z)(h1 : -1<=z)(h2:z<=1):Ds F.vy [ai di p,aW s] (.tup [aW (Ev p s z),I 0]):=by
 apply afx;have si:=apY hp aa hl hs hz
 have hk:pB z=z:=by
  rcases(show z = -1∨z=0∨z=1 by omega)with rfl|rfl|rfl<;>rfl
 have hkk:fJ 1 [(pB z,1)]:=λx hx=>by
  simp at hx;subst hx;exact⟨⟨ac,ac⟩,ef aa au,ef ac au⟩
 have su:=JN (n:=RW p) (l:=[s]) (fs:=[(pB z,1)]) (Ks:=30) (Kk:=1) aa ac rfl au ac (λt ht=>by
  simp at ht;subst ht;trivial) hkk
 have su':Ds F.rT [I (RW p),ai bQ [s],aW [(pB z,1)]] (aW (Ev p s z)):=su;have l1:∀H,cL 1 [aR] [(0,aW s)] H=Wf ([bQ s],H):=λH=>wh ..
 have l2:∀H,cL 1 [D.str [],D.str []] [(0,.agg (qT (pB z,1)))] H=Wf (bb (tx (pB z,1)),H):=λH=>Dq (pB z,1) H
 have l3:bf (ai di p)=Wf (I (RW p)):=rfl;have m1:gk Th [I z,I (-z)]=Wf (I (max z (-z))):=by simp only[gk,LC]
 have m2:gk Th [I z,I 0]=Wf (I (max z 0)):=by simp only[gk,LC]
 have n1:aD .mul (.d (.int .i64 2)) (I (max z 0))=Wf (I (2*max z 0)):=by rw[zd,wrap_i64 ⟨aa,aa⟩]
 have n2:aD .sub (I (2*max z 0)) (.d (.int .i64 1))=Wf (I (2*max z 0-1)):=by rw[BW,wrap_i64 ⟨aa,aa⟩]
 have n3:aD .mul (I (max z (-z))) (I (2*max z 0-1))=Wf (I (pB z)):=by
  rw[zd,wrap_i64 ae];rfl
 have nb:=GJ (z:=pB z) aa aa
 have neg:f9 .neg (I z)=Wf (I (-z)):=by
  rcases(show z = -1∨z=0∨z=1 by omega)with rfl|rfl|rfl<;>rfl
 simp[vy];refine cd si ?_ aN;clear su;generalize pB z=az at *;generalize max z (-z)=a1 at *;generalize max z 0=a2 at *;generalize 2*a2-1=a4 at *;simp[l1,l3,neg,m1,m2,n1,n2,n3];refine cd nb ?_;simp[l2];refine cd (v:=aW (Ev p s z)) su' ?_ aN;simp[fR,zQ]
def S9(ts:List (Int×Int)):Prop:=RW ts<=8∧∀t∈ts,2<=t.1∧t.1<128∧t.2.natAbs<9223372036854775808
theorem aiV{n d:Int}(h:d≠0):gE (js n d):=by unfold js;split<;>exact G2 _ aa
theorem ahT(h:S9 ts):xV ts:=⟨by have:=h.1;omega,λt ht=>⟨(h.2 t ht).1,by have:=(h.2 t ht).2.1;omega,(h.2 t ht).2.2⟩⟩
theorem E8{l:List (List Q)}(h:∀s∈l,RW s=n):RW (gC n l f)=n:=by unfold gC;rw[u5 (λs hs=>by simpa using h s hs)];simp
def b9:aw->aw->Int
 |a::r,b::t=>a*b+b9 r t
 |_,_=>0
def vJ(E:Int)(ws:Int):aw->aw->aw->Bool
 |w::W,l::L,u::U=>decide (E*u=w+ws*l)&&vJ E ws W L U
 |[],[],[]=>Th
 |_,_,_=>SM
def E9:aw->Nat
 |[]=>0
 |w::W=>w.natAbs+E9 W
theorem XX{E ws:Int}:∀{w L u:aw},vJ E ws w L u=Th->∀c:aw,E*b9 c u=b9 c w+ws*b9 c L
 |[],[],[],_,c=>by cases c<;>simp[b9]
 |w::W,l::L,u::U,h,[]=>by simp[b9]
 | w::W,l::L,u::U,h,x::c=>by
  simp[vJ,Z7,dT]at h;have ih:=XX h.2 c;simp[b9,V4];rw[ih]
  have e1:E*(x*u)=x*w+ws*(x*l):=by
   have:E*(x*u)=x*(E*u):=by rw[Int.mul_left_comm]
   rw[this,h.1,V4,Int.mul_left_comm x ws l]
  rw[e1];omega
 |[],[],_::_,h,_=>by simp[vJ]at h
 |[],_::_,_,h,_=>by simp[vJ]at h
 |_::_,[],_,h,_=>by simp[vJ]at h
 |_::_,_::_,[],h,_=>by simp[vJ]at h
theorem YC{B:Nat}:∀(c w:aw),(∀x∈c,x.natAbs<=B)->(b9 c w).natAbs<=E9 w*B
 |[],w,_=>by simp[b9]
 |x::c,[],_=>by simp[b9]
 | x::c,w::W,h=>by
  have h1:=h x ac;have ih:=YC c W λy hy=>h y (by simp[hy])
  have h2:(x*w).natAbs<=w.natAbs*B:=by
   rw[Zl,Zp];exact Z4 _ h1
  have h3:=Xz (x*w) (b9 c W);simp only[b9,E9,Nat.add_mul];omega
structure uO where
 w:aw
 s:Int
 u:aw
variable{rs:List uO}
def FZ(k E B G:Nat)(L:aw)(r:uO):Bool:=vJ E r.s r.w L r.u&&decide (E9 r.w*B+r.s.natAbs*G<E)&&decide (RW r.u=k)
theorem row_zero{B:Nat}{r:uO}(h:FZ k E B G L r=Th){c:aw}(hc:∀x∈c,x.natAbs<=B)(hL:(b9 c L).natAbs<=G):b9 c r.u=0:=by
 simp[FZ,Z7,dT]at h;have h1:=XX h.1.1 c;have h2:=YC c r.w hc
 have h3:(r.s*b9 c L).natAbs<=r.s.natAbs*G:=by
  rw[Zl];exact Z4 _ hL
 have h4:=Xz (b9 c r.w) (r.s*b9 c L);rw[<-h1,Zl,Int.natAbs_natCast]at h4;have h5:E*(b9 c r.u).natAbs<E*1:=by rw[Y1];exact Ze (Z1 h4 (Nat.add_le_add h2 h3)) h.1.2
 have h6:=Xd h5;omega
def ze(v:Int):aw->aw->aw
 |x::a,y::b=>(v*x+y)::ze v a b
 |_,_=>[]
def sU(k:Nat):aw->cM->aw
 |v::V,u::U=>ze v u (sU k V U)
 |_,_=>So k 0
theorem YE(v:Int):∀(c a b:aw),RW a=RW b->b9 c (ze v a b)=v*b9 c a+b9 c b
 |[],a,b,_=>by simp[b9]
 |x::c,[],[],_=>by simp[b9,ze]
 | x::c,y::a,z::b,h=>by
  simp[ze,b9,YE v c a b (by simpa using h),V4];rw[Int.mul_left_comm x v y];omega
 |x::c,[],_::_,h=>by simp at h
 |x::c,_::_,[],h=>by simp at h
theorem aaX(v:Int):∀(a b:aw),RW a=RW b->RW (ze v a b)=RW a
 |[],[],_=>rfl
 |x::a,y::b,h=>by simp[ze,aaX v a b (by simpa using h)]
 |[],_::_,h=>by simp at h
 |_::_,[],h=>by simp at h
theorem ZV{k:Nat}:∀(V:aw)(U:cM),(∀u∈U,RW u=k)->RW (sU k V U)=k
 |[],_,_=>by simp[sU]
 |_::_,[],_=>by simp[sU]
 | v::V,u::U,h=>by
  have h1:=h u ac;have ih:=ZV V U λy hy=>h y (by simp[hy])
  rw[sU,aaX v _ _ (by rw[h1,ih]),h1]
theorem Nl:∀(c:aw)(k:Nat),b9 c (So k 0)=0
 |[],k=>by simp[b9]
 |x::c,0=>by simp[b9]
 |x::c,k+1=>by simp[List.replicate_succ,b9,Nl c k]
theorem YD{k:Nat}{c:aw}:∀(V:aw)(U:cM),(∀u∈U,RW u=k)->(∀u∈U,b9 c u=0)->b9 c (sU k V U)=0
 |[],_,_,_=>by rw[sU];exact Nl c k;simp
 |_::_,[],_,_=>by rw[sU];exact Nl c k;simp
 | v::V,u::U,h,h0=>by
  have h1:=h u ac;have hl:=ZV V U λy hy=>h y (by simp[hy])
  rw[sU,YE v _ _ _ (by rw[h1,hl]),h0 u ac,YD V U (λy hy=>h y (by simp[hy])) λy hy=>h0 y (by simp[hy])];simp
def zA:Nat->aw->Bool
 |0,x::r=>decide (x=1)&&r.all λy=>decide (y=0)
 |i+1,x::r=>decide (x=0)&&zA i r
 |_,[]=>SM
theorem YA:∀(c r:aw),(r.all λy=>decide (y=0))=Th->b9 c r=0
 |[],r,_=>by simp[b9]
 |x::c,[],_=>by simp[b9]
 | x::c,y::r,h=>by
  simp only[List.all_cons,Z7,dT]at h;simp[b9,h.1,YA c r h.2]
theorem XW:∀(i:Nat)(c r:aw),zA i r=Th->b9 c r=c.getD i 0
 |_,[],r,_=>by simp[b9]
 |i,x::c,[],h=>by cases i<;>simp[zA]at h
 | 0,x::c,y::r,h=>by
  simp only[zA,Z7,dT]at h;simp[b9,h.1,YA c r h.2]
 | i+1,x::c,y::r,h=>by
  simp[zA,Z7,dT]at h;simp[b9,h.1,XW i c r h.2]
def BR(k E B G:Nat)(L:aw)(rs:List uO)(V:cM):Bool:=
 rs.all (FZ k E B G L)&&(List.range k).all λi=>zA i (sU k (V.getD i []) (rs.map uO.u))
theorem aou{B:Nat}{V:cM}(h:BR k E B G L rs V=Th){c:aw}(hk:RW c=k)(hc:∀x∈c,x.natAbs<=B)(hL:(b9 c L).natAbs<=G):∀x∈c,x=0:=by
 simp only[BR,Z7,Zz,Xi]at h;intro x hx;obtain⟨i,hi,rfl⟩:=Wi hx;have h1:=h.2 i aa;have h2:=XW i c _ h1
 have hu:∀u∈rs.map uO.u,RW u=k:=by
  intro u hu;obtain⟨r,hr,rfl⟩:=Zw.1 hu;have:=h.1 r hr;simp[FZ,Z7,dT]at this;exact this.2
 have hz:∀u∈rs.map uO.u,b9 c u=0:=by
  intro u hu;obtain⟨r,hr,rfl⟩:=Zw.1 hu;exact row_zero (h.1 r hr) hc hL
 rw[YD _ _ hu hz]at h2;rw[Z6,List.getElem?_eq_getElem hi]at h2;simpa using h2.symm
def Vl(p q a:Int):aw->aw->aw
 |t::ts,r::rs=>(p*t-a*r)/q::Vl p q a ts rs
 |_,_=>[]
def Mv(p q:Int)(rest:aw):cM->cM
 |(a::t)::R=>Vl p q a t rest::Mv p q rest R
 |_=>[]
def Vn:Nat->cM->Int->cM->cM
 |n+1,D,q,(p::rest)::R=>Vn n (Mv p q rest D++[rest]) p (Mv p q rest R)
 |_,D,q,_=>D.map λr=>r.map (q * ·)
def acb(k i:Nat):aw:=(List.range k).map λj=>if i=j then 1 else 0
def aaY(k:Nat):Nat->cM->cM
 |i,v::V=>(v++acb k i)::aaY k (i+1) V
 |_,[]=>[]
def ivM(k:Nat)(V:cM):cM:=Vn k [] 1 (aaY k 0 V)
def agw(E:Int)(L:aw)(u:aw):uO:=⟨List.zipWith (λx l=>E*x-u.getLastD 0*l) u L,u.getLastD 0,u⟩
def eu(n:Nat)(p:Int):Int:=(lg p n:Int)
def px:aw:=[2,3,5,7,11,13]
def Of:aw:=px.map (eu 2048)
def Og:Nat:=lg 13 2048
def Oe:cM:=[[2505632726243893919427248,37363649317514420902466093,46477260228354403041493751,-58003229516542057431797140,-15057295410276108388899585,-14971856798368046033805264],[-6468867710079767890381561,-11119633146733715149791251,25758522260144387158066355,25120626473553828029748921,-21017786884855784315416113,20457306914538837573482104],[-10822464117439059568603833,19535643540806504414588147,459074409943010318492609,9756398330483923621702778,-50098038355954498359498971,-61366103515540422680131324],[14537544594484470209685826,5835193301654337655457460,-30420219925102840764344579,-25199522547478204684291748,-18922988829788052015374945,35044169305270853272295706],[-33980339139849080327203319,-31910829884962694460020145,2738906948132587203398157,-12766138930794734537985420,30249525070648516782987174,10887861776468812857315007],[29622662201364248515898145,7813143869208612526792154,-3362896834617060908787601,29845618333873557643178232,30583155841379738043590236,-2975798287937716846607034]]
theorem aoS:px.map (eu 2048)=Of:=rfl
def c6R:List uO:=(ivM 6 Oe).map (agw Og Of)
theorem aoP:BR 6 Og 73786976294838206464 73786976294838206464 Of c6R Oe=Th:=du
theorem aav:BR 6 Og 73786976294838206464 73786976294838206464 (px.map (eu 2048)) c6R Oe=Th:=by rw[aoS];exact aoP
def iX(h:Int->Int):List (Int×Int)->Int
 |[]=>0
 |t::ts=>t.2*h t.1+iX h ts
def oM:List (Int×Int)->Nat
 |[]=>0
 |t::ts=>t.2.natAbs+oM ts
def nK:List (Int×Int)->Int->Int
 |[],_=>0
 |t::ts,c=>(if t.1=c then t.2 else 0)+nK ts c
theorem Ie(n:Nat):∀ts:List (Int×Int),(eC n ts (0,0)).1<=iX (eu n) ts∧iX (eu n) ts<=(eC n ts (0,0)).2∧(eC n ts (0,0)).2-(eC n ts (0,0)).1<=oM ts
 |[]=>by simp[eC,iX,oM]
 | t::ts=>by
  have⟨h1,h2,h3⟩:=Ie n ts;have⟨x,hx⟩:∃x:Int,x=lg t.1 n:=⟨_,rfl⟩;have⟨y,hy⟩:∃y:Int,y=if t.1=2 then x else x+1:=⟨_,rfl⟩
  have hxy:y=x∨y=x+1:=by rw[hy];split<;>simp
  have e:eC n (t::ts) (0,0)=eC n ts (if t.2<0 then(0+y*t.2,0+x*t.2)else(0+x*t.2,0+y*t.2)):=by
   rw[hy,hx];rfl
  have e2:iX (eu n) (t::ts)=t.2*x+iX (eu n) ts:=by rw[hx];rfl
  rw[e,e2,D6 ts];simp only[oM,Xa]
  have m1:y*t.2=x*t.2∨y*t.2=x*t.2+t.2:=by
   rcases hxy with h|h
   .left;rw[h]
   .right;rw[h,Wz,Int.one_mul]
  rw[Yi t.2 x];by_cases hn:t.2<0
  .rw[ip hn];simp only;omega
  .rw[iN hn];simp only;omega
theorem YB(f g:Int->Int):∀(P L:aw),b9 (P.map λc=>f c+g c) L=b9 (P.map f) L+b9 (P.map g) L
 |[],L=>by simp[b9]
 |p::P,[]=>by simp[b9]
 | p::P,l::L=>by
  simp only[Zv,b9,YB f g P L,Wz];omega
theorem XZ(h:Int->Int)(a z:Int):∀P:aw,a ∉ P->b9 (P.map λc=>if a=c then z else 0) (P.map h)=0
 |[],_=>by simp[b9]
 | p::P,hn=>by
  simp only[Zx,not_or]at hn;simp[b9,hn.1,XZ h a z P hn.2]
theorem XY(h:Int->Int)(a z:Int):∀P:aw,P.Nodup->a∈P->b9 (P.map λc=>if a=c then z else 0) (P.map h)=z*h a
 |[],_,hm=>by simp at hm
 | p::P,hn,hm=>by
  rw[Xx]at hn;by_cases e:a=p
  .subst e;simp[b9,XZ h a z P hn.1]
  .have:a∈P:=by simpa[e]using hm
   simp[b9,e,XY h a z P hn.2 this]
theorem Px(h:Int->Int){P:aw}(hP:P.Nodup):∀ts:List (Int×Int),(∀t∈ts,t.1∈P)->iX h ts=b9 (P.map (nK ts)) (P.map h)
 | [],_=>by
  have:∀P:aw,b9 (P.map (nK [])) (P.map h)=0:=by
   intro P
   induction P with
   |nil=>rfl
   |cons p P ih=>rw[Zv,Zv,b9,ih];simp[nK]
  rw[this];rfl
 | t::ts,hm=>by
  rw[iX,Px h hP ts λu hu=>hm u (by simp[hu])];have:nK (t::ts)=λc=>(if t.1=c then t.2 else 0)+nK ts c:=by funext c;rfl
  rw[this,YB,XY h t.1 t.2 P hP (hm t ac)]
theorem aaj(c:Int):∀ts:List (Int×Int),(nK ts c).natAbs<=oM ts
 |[]=>by simp[nK]
 | t::ts=>by
  have:=aaj c ts;simp only[nK,oM];split<;>omega
theorem N7{c:Int}:∀ts:List (Int×Int),c ∉ ts.map Prod.fst->nK ts c=0
 |[],_=>rfl
 | t::ts,h=>by
  simp only[Zv,Zx,not_or]at h;rw[nK,iN (λe=>h.1 e.symm),N7 ts h.2];rfl
theorem TB{B:Nat}{V:cM}(hc:BR k E B G (P.map (eu n)) rs V=Th)(hk:RW P=k)(hP:P.Nodup)(hm:∀t∈ts,t.1∈P)(hB:oM ts<=B)(hG:(iX (eu n) ts).natAbs<=G):∀c∈P,nK ts c=0:=by
 intro c hcP
 have h1:=aou hc (c:=P.map (nK ts)) (by simpa using hk) (by
  intro x hx;obtain⟨d,_,rfl⟩:=Zw.1 hx;exact Z1 (aaj d ts) hB) (by rw[<-Px (eu n) hP ts hm];exact hG)
 exact h1 _ (List.mem_map_of_mem hcP)
theorem afK{B:Nat}{V:cM}(hc:BR k E B G (P.map (eu n)) rs V=Th)(hk:RW P=k)(hP:P.Nodup)(hm:∀t∈ts,t.1∈P)(hn:(ts.map Prod.fst).Nodup)(h0:∀t∈ts,t.2≠0)(hB:oM ts<=B)(hG:oM ts<=G)(MT:ts≠[]):
  0<=(eC n ts (0,0)).1∨(eC n ts (0,0)).2<=0:=by
 have⟨g1,g2,g3⟩:=Ie n ts;by_cases hd:0<=(eC n ts (0,0)).1∨(eC n ts (0,0)).2<=0
 .exact hd
 .exfalso;have hz:=TB hc hk hP hm hB aa;cases ts with
  |nil=>exact MT rfl
  | cons t ts=>
   have h1:=hz t.1 (hm t ac);simp only[Zv,Xx]at hn;rw[nK,ip rfl,N7 ts hn.1]at h1;exact h0 t ac aa
def UH(n:Nat)(p:Int):Bool:=(A0 p.toNat n).isSome&&decide (2^n<=lg p n)&&decide (lg p n+1<=8*2^n)
theorem aoO:∀p∈px,∀i∈List.range 6,UH (64*2^i) p=Th:=du
theorem aim(hk:1<=k)(h:x<2^(3*k)):ay x<=k:=by refine ef (Z0 h ?_) hk;rw[Wd];exact Nat.pow_le_pow_left au k
theorem aik{m:Nat}(hk:1<=k)(hm:m+3<=3*k)(h:x+1<=8*2^m):ay x<=k:=by
 refine aim hk (Z0 (Z0 (Nat.lt_succ_self x) h) ?_);have e:8*2^m=2^(m+3):=by rw[Yq,Zp]
 rw[e];exact Z2 au hm
theorem aat:∀p∈px,2<=p∧p<128:=au
theorem aau:px.Nodup:=au
theorem aoQ{p:Int}(hp:p∈px)(hi:i<6):(A0 p.toNat (64*2^i)).isSome=Th∧2^(64*2^i)<=lg p (64*2^i)∧lg p (64*2^i)+1<=8*2^(64*2^i):=by have:=aoO p hp i (Xi.2 hi);simp only[UH,Z7,dT]at this;exact⟨this.1.1,this.1.2,this.2⟩
theorem aoR(h:∀t∈ts,t.1∈px):Ha ts:=by intro i hi t ht;have⟨h1,h2,h3⟩:=aoQ (h t ht) hi;have⟨p1,p2⟩:=aat _ (h t ht);refine⟨p1,aa,h1,?_⟩;have⟨k,hk⟩:=bD (1500);rw[<-hk];refine aik aa ?_ h3;have:2^i<=2^5:=Z2 au aa;omega
theorem Qi{C:Nat}:∀ts:List (Int×Int),(∀t∈ts,t.2.natAbs<=C)->oM ts<=RW ts*C
 |[],_=>by simp[oM]
 | t::ts,h=>by
  have h1:=h t ac;have h2:=Qi ts λu hu=>h u (by simp[hu])
  simp only[oM,List.length_cons,X3];omega
def rp(b:Nat)(x:Q)(a:Int):Prop:=gE x∧x.1*(b:Int)=a*(x.2:Int)
theorem FR{n a:Int}{b:Nat}(hd:0<d)(h:n*(b:Int)=a*(d:Int)):rp b (fD n d) a:=by
 have⟨h1,h2⟩:=aiX n hd;refine⟨G2 n hd,?_⟩;have hd':(d:Int)≠0:=aa;refine Int.eq_of_mul_eq_mul_right hd' ?_
 calc (fD n d).1*(b:Int)*(d:Int)=(fD n d).1*(d:Int)*(b:Int):=by rw[Yr]
  _=n*((fD n d).2:Int)*(b:Int):=by rw[h1]
  _=n*(b:Int)*((fD n d).2:Int):=by rw[Yr]
  _=a*((fD n d).2:Int)*(d:Int):=by rw[h,Yr]
theorem FT{b:Nat}{x y:Q}{a c:Int}(hx:rp b x a)(hy:rp b y c):rp b (dZ x y) (a+c):=by
 have p1:=hx.1.1;have p2:=hy.1.1;refine FR (Yk p1 p2) ?_;rw[Wz,Wz,Int.natCast_mul]
 have e1:x.1*(y.2:Int)*(b:Int)=a*((x.2:Int)*(y.2:Int)):=by
  rw[Yr,hx.2,Int.mul_assoc]
 have e2:y.1*(x.2:Int)*(b:Int)=c*((x.2:Int)*(y.2:Int)):=by
  rw[Yr,hy.2,Int.mul_assoc,Yi (y.2:Int)]
 rw[e1,e2]
theorem Rr{b:Nat}{x:Q}{a:Int}(z:Int)(hx:rp b x a):rp b (ik x (z,1)) (z*a):=by have p1:=hx.1.1;refine FR (by simpa using p1) ?_;simp[Y1];rw[Yr,hx.2,Int.mul_assoc,Yi (x.2:Int),<-Int.mul_assoc,Yi a]
theorem agn{b:Nat}{x:Q}{a:Int}(m:Nat)(hx:rp b x a):rp (b*m) x (a*m):=
 ⟨hx.1,by rw[Int.natCast_mul,<-Int.mul_assoc,hx.2,Yr]⟩
theorem KB(b:Nat):rp b (0,1) 0:=⟨⟨au,au⟩,ac⟩
theorem FS{b:Nat}{x:Q}{a:Int}(h:rp b x a):x.2∣b:=by
 have h1:x.1.natAbs*b=a.natAbs*x.2:=by
  have:=RT Int.natAbs h.2;simpa[Zl]using this
 have h2:x.2∣x.1.natAbs*b:=⟨a.natAbs,by rw[h1,Zp]⟩;exact Nat.Coprime.dvd_of_dvd_mul_left (Nat.Coprime.symm h.1.2) h2
theorem Rq{b:Nat}{x:Q}{a:Int}(hb:0<b)(h:rp b x a):x.1.natAbs*(b/x.2)=a.natAbs:=by
 have⟨m,hm⟩:=FS h
 have h1:x.1.natAbs*b=a.natAbs*x.2:=by
  have:=RT Int.natAbs h.2;simpa[Zl]using this
 have p:=h.1.1;rw[hm,Yd _ p];refine Nat.eq_of_mul_eq_mul_right p ?_;rw[<-h1,hm,Nat.mul_assoc,Zp m]
theorem Rt{b:Nat}{x:Q}{a:Int}(hb:0<b)(h:rp b x a):x.1.natAbs<=a.natAbs∧x.2<=b:=by have h1:=Rq hb h;have h2:=Xk hb (FS h);have h3:1<=b/x.2:=(Xt h.1.1).2 aa;refine⟨?_,h2⟩;rw[<-h1];exact Zc _ h3
def ft(b B:Nat)(s:List Q):Prop:=∀x∈s,∃a:Int,rp b x a∧a.natAbs<=B
theorem Es{b B C:Nat}(h:ft b B s)(hc:B<=C):ft b C s:=λx hx=>by
 have⟨a,h1,h2⟩:=h x hx;exact⟨a,h1,aa⟩
theorem Ov{b A C:Nat}(z:Int):∀{o s:List Q},ft b A o->ft b C s->ft b (A+z.natAbs*C) (iV (z,1) o s)
 | x::o,y::s,ho,hs=>by
  have⟨a,a1,a2⟩:=ho x ac;have⟨c,c1,c2⟩:=hs y ac;have ih:=Ov z (o:=o) (s:=s) (λu hu=>ho u (by simp[hu])) λu hu=>hs u (by simp[hu])
  intro u hu;simp[iV,Zx]at hu;rcases hu with rfl|hu
  .refine⟨a+z*c,FT a1 (Rr z c1),?_⟩;have h1:=Xz a (z*c);rw[Zl]at h1;have h2:=Z4 z.natAbs c2;omega
  .exact ih u hu
 |[],s,_,_=>by intro u hu;simp[iV]at hu
 |_::_,[],_,_=>by intro u hu;simp[iV]at hu
theorem aaM(b n:Nat):ft b 0 (So n (0,1)):=λx hx=>by
 rw[Ww]at hx;rw[hx.2];exact⟨0,KB b,ac⟩
theorem apo{b B:Nat}(h:ft b B s):ft b (z.natAbs*B) (gC n [s] [(z,1)]):=by have:=Ov z (aaM b n) h;simpa[gC,m8]using this
theorem apr{b B:Nat}(hb:0<b)(h:ft b B s):∀x∈s,gE x:=λx hx=>by
 have⟨a,h1,h2⟩:=h x hx;exact h1.1
theorem BX{b B:Nat}(hb:0<b)(h:ft b B s)(h1:b<1000000000000000000000000000000)(h2:B<1000000000000000000000000000000):jN s:=λx hx=>by
 have⟨a,r1,r2⟩:=h x hx;have⟨l1,l2⟩:=Rt hb r1;exact⟨r1.1,ef (d:=30) (by show _<10^30;omega) au,ef (d:=30) (by show _<10^30;omega) au⟩
theorem YT{b:Nat}:∀{s:List Q}{d:Nat},d∣b->(∀x∈s,x.2∣b)->ky d s∣b
 |[],d,h,_=>h
 |x::s,d,h,hs=>YT (s:=s) (Nat.lcm_dvd h (hs x ac)) λy hy=>hs y (by simp[hy])
theorem aaR{b B:Nat}(h:ft b B s):ky 1 s∣b:=YT (Nat.one_dvd b) λx hx=>by
 have⟨a,r1,r2⟩:=h x hx;exact FS r1
theorem PV{b B d:Nat}(hb:0<b)(hd:d∣b):∀{p:aw}{s:List Q},ft b B s->∀t∈gz d p s,t.2.natAbs<=B
 |[],s,_,t,ht=>by simp[gz]at ht
 |p::ps,[],_,t,ht=>by simp[gz]at ht
 | p::ps,x::s,h,t,ht=>by
  have⟨a,r1,r2⟩:=h x ac;have ih:=PV hb hd (p:=ps) (s:=s) λy hy=>h y (by simp[hy])
  simp only[gz]at ht
  have hx:(x.1*((d/x.2:Nat):Int)).natAbs<=B:=by
   rw[Zl,Int.natAbs_natCast];have h1:=Rq hb r1;have h2:d/x.2<=b/x.2:=Nat.div_le_div_right (Xk hb hd);have h3:=Z4 x.1.natAbs h2;omega
  split at ht
  .exact ih t ht
  .simp only[Zx]at ht;rcases ht with rfl|ht
   .exact hx
   .exact ih t ht
theorem JF{d:Nat}:∀{p:aw}{s:List Q},∀t∈gz d p s,t.1∈p
 |[],s,t,ht=>by simp[gz]at ht
 |p::ps,[],t,ht=>by simp[gz]at ht
 | p::ps,x::s,t,ht=>by
  have ih:=JF (d:=d) (p:=ps) (s:=s);simp only[gz]at ht;split at ht
  .exact W8 _ (ih t ht)
  .simp only[Zx]at ht;rcases ht with rfl|ht
   .simp
   .exact W8 _ (ih t ht)
theorem PS{d:Nat}:∀{p:aw}{s:List Q},p.Nodup->((gz d p s).map Prod.fst).Nodup
 |[],s,_=>by simp[gz]
 |p::ps,[],_=>by simp[gz]
 | p::ps,x::s,h=>by
  rw[Xx]at h;have ih:=PS (d:=d) (p:=ps) (s:=s) h.2;simp only[gz];split
  .exact ih
  .simp only[Zv,Xx];refine⟨λhm=>?_,ih⟩;have⟨t,ht,e⟩:=Zw.1 hm;exact h.1 (by rw[<-e];exact JF t ht)
theorem PT{d:Nat}(hd:0<d):∀{p:aw}{s:List Q},(∀x∈s,0<x.2∧x.2∣d)->∀t∈gz d p s,t.2≠0
 |[],s,_,t,ht=>by simp[gz]at ht
 |p::ps,[],_,t,ht=>by simp[gz]at ht
 | p::ps,x::s,h,t,ht=>by
  have ih:=PT hd (p:=ps) (s:=s) λy hy=>h y (by simp[hy])
  have⟨h1,h2⟩:=h x ac;have h3:0<d/x.2:=V6 (Xk hd h2) h1;simp only[gz]at ht;split at ht
  .exact ih t ht
  .rename_i hx;simp only[Zx]at ht;rcases ht with rfl|ht
   .exact Wt hx aa
   .exact ih t ht
def yG(p:aw):Prop:=p.Nodup∧RW p<=6∧∀x∈p,x∈px
theorem Jw{p:aw}(hp:yG p):∀t∈tq p s,t.1∈px:=λt ht=>hp.2.2 _ (JF t ht)
theorem adb{p:aw}{b B:Nat}(hp:yG p)(hb:0<b)(h:ft b B s)(hB:B<9223372036854775808):S9 (tq p s):=by
 refine⟨?_,λt ht=>?_⟩
 .have:=JG (d:=ky 1 s) p s;have:=hp.2.1;unfold tq;omega
 .have⟨h1,h2⟩:=aat _ (Jw hp t ht);exact⟨h1,h2,Ze (PV hb (aaR h) h t ht) hB⟩
def nN:Acc:=⟨1,0,1,.none⟩
def sd:cM:=[[2,3,5],[2,3,5,7],[2,3],[2,3,7],[2,5,7],[3,5,7],[2,3,5,11],[2],[2,3,7,13],[3,5,7,13]]
def fP(k:Nat):aw:=sd.getD (k%10) []
theorem ag6(hk:k<256):Ds F.xK [.d (.int .u8 k)] (ai di (fP k)):=by
 apply agh;have c1:fq .i64 (.d (.int .u8 (k:Int)))=Wf (I k):=by rw[ZM,wrap_i64 ⟨aa,aa⟩]
 have m1:aD .rem (I (k:Int)) (I 10)=Wf (I ((k%10:Nat):Int)):=by
  rw[aaH aa,Zt aa];congr 3
 have hkk:k%10<10:=Y5 _ au;have i1:=λH:Hp=>mn row sd H (k:=.i64) (i:=((k%10:Nat):Int)) aa (by show((k%10:Nat):Int)<10;omega)
 have i2:=λH:Hp=>mS row [] sd H (j:=k%10) hkk
 have hn:nth [] sd (k%10)=fP k:=rfl;rw[hn]at i2;generalize k%10=j at *;simp only[Int.toNat_natCast]at i1;simp(disch:=try exact cj)[xK,cL,dF,dY,dS,c1];have hw:iK.wrap .i64 (k:Int)=(k:Int):=wrap_i64 ⟨aa,aa⟩
 show rn (bnd (bf (ai row sd))) (λv13=>bnd (aD .rem (.d (.int .i64 (iK.i64.wrap k))) v13) λv14=>bnd (bq [] 1 (ai row sd) v14) λv15=>bnd (ld1 [] v15) λv16=>out (ai di (fP k)) v16 []) .mk
 have l10:bf (ai row sd)=Wf (I 10):=rfl;rw[hw,l10];rw[agx];rw[show aD .rem (.d (.int .i64 (k:Int))) (I 10)=Wf (I (j:Int))from m1];rw[BU,i1,BU,i2,BU];exact ahB ..
def gH(l:Nat)(e:aw):aw:=(e.take l).map λx=>x.tmod 10
def eA(x:Int):V:=.d (.int .i8 x)
def DI(e:aw)(L:Nat)(c:bF):Hp:=[(1,.vars (e.map eA)),nN.b L c]
theorem Tb:∀e:aw,offB [] (.vars (e.map eA))=Th
 |[]=>rfl
 | x::e=>by
  have:=Tb e;rw[AP]at this ⊢;simp[fA,gY,eA];simpa[eA]using this
theorem Vo{p:aw}{e:aw}(he:RW e=4)(hb:∀x∈e,-128<=x∧x<=127)(hp:RW p<=4)(k:KL)(h0:Hp)(hh:RW h0=2):∀(f i:Nat),i+f=RW p ->
  k (.exit 0) [nN.v (RW (gH (RW p) e)) ((gH (RW p) e).map di)] (DI e (RW (gH (RW p) e)) ((gH (RW p) e).map di)) ->
  lp (FO DA (ai di p) (.ptr 0 1 0 4)) [] h0 [nN.v (RW (gH i e)) ((gH i e).map di),I i] (DI e (RW (gH i e)) ((gH i e).map di)) k
 | 0,i,hi,hk=>by
  have g:¬(i:Int)<(RW p:Int):=aa;have:i=RW p:=aa;subst this;have l1:bf (ai di p)=Wf (I (RW p)):=rfl;apply aL;simp[FO,l1];exact hk
 | f+1,i,hi,hk=>by
  have g:(i:Int)<(RW p:Int):=aa;have g2:(i:Int)<4:=aa;have l1:bf (ai di p)=Wf (I (RW p)):=rfl;have⟨x,hx⟩:∃x,e[i]?=Wf x:=⟨e[i]'(by omega),List.getElem?_eq_getElem aa⟩;have hxm:=hb x (Yb hx);have li:RW (gH i e)=i:=by simp[gH];omega
  have ih:=Vo he hb hp k h0 hh f (i+1) aa hk
  have es:gH (i+1) e=gH i e++[x.tmod 10]:=by
   unfold gH;rw[Wq,hx];simp
  rw[es]at ih;have PJ:i<RW e:=aa
  have hxe:e[i]=x:=by
   have:=List.getElem?_eq_getElem PJ;rw[hx]at this;simpa using this.symm
  have he':4=RW e:=he.symm;have r1 : -10<x.tmod 10:=Int.lt_tmod_of_pos x au;have r2:=Int.tmod_lt_of_pos x (b:=10) au;have li1:∀(z:Int)(H:Hp),cL 1 [D.int iK.i64 0] [(0,V.d (D.int iK.i64 z))] H=Wf ([di z],H):=λz H=>by simp[cL,dF,dY,dS,di]
  have cR:RW ((gH i e).map di)=RW (gH i e)*nN.n:=by simp[nN]
  have bP:∀x y:Nat×Bk,([(1,.vars (e.map eA)),x]:Hp).set nN.s y=[(1,.vars (e.map eA)),y]:=λx y=>rfl
  have hre:∀x:Hp,RW x=2->dl [] 0 h0 x=x:=λx hx=>xP 0 h0 x aa
  have ev:∀c,nN.v (RW (gH i e)+1) c=.ref nN.s (nN.e+1) 0 (RW (gH i e)+1) (RW (gH i e)+1) (RW c):=λc=>rfl
  have eb:∀c,nN.b (RW (gH i e)+1) c=(nN.e+1,.data nN.n c SM SM):=λc=>rfl
  apply aL;simp(disch:=omega) [FO,l1,g,g2,DI,he',hxe,eA,li1];refine mG nN (k:=1) aa rfl cR aN rfl (λt e=>by cases e) aa au ?_;have hoff:=Tb e;simp(disch:=try exact cj)[bP,hre,clean,fA,xY,xX,fC,gY,hoff];refine⟨rfl,?_⟩;simpa[ev,eb,DI]using ih
theorem abp{p:aw}{a b c d:Int}(ha : -128<=a∧a<=127)(hb : -128<=b∧b<=127)(hc : -128<=c∧c<=127)(hd : -128<=d∧d<=127)(hp:RW p<=4):Ds F.tP [ai di p,.agg [eA a,eA b,eA c,eA d]] (ai di (gH (RW p) [a,b,c,d])):=by
 apply agj
 have hl:=Vo (p:=p) (e:=[a,b,c,d]) rfl (by
  intro x hx;simp only[Zx,Y3,or_false]at hx;rcases hx with rfl|rfl|rfl|rfl<;>assumption) hp (aV [((.exit 0),λl2 h=>out (ai di (gH (RW p) [a,b,c,d])) (ge l2 0) h)]) [(1,.vars [eA a,eA b,eA c,eA d]),ah] rfl (RW p) 0 aa (by
  have⟨h',q1,_⟩:=oC nN (L:=RW (gH (RW p) [a,b,c,d])) (cells:=(gH (RW p) [a,b,c,d]).map di) (h:=DI [a,b,c,d] (RW (gH (RW p) [a,b,c,d])) ((gH (RW p) [a,b,c,d]).map di)) rfl (by simp[nN]);simp only[aV];exact⟨h',q1⟩)
 simp[tP];exact hl
theorem ael(hr:∀x∈r,x.natAbs<=9):nV r=Th:=by grind[nV]
theorem K6(k:Nat):fP k∈sd:=by simp[fP,sd,Y5]
theorem K5:∀l∈sd,d8 l=0∧l.Nodup∧0<RW l∧RW l<=4∧∀x∈l,x∈px:=by trivial
abbrev Rw:=aw
theorem agF{x:aw}(hx:RW x<1000000000)(hy:RW y<1000000000):Ds F.xM [ai di x,ai di y] (B (decide (x=y))):=by apply ags;simp(disch:=try exact cj)[xM];refine cd (XH hx hy) ?_;simp(disch:=try exact cj)
def iI(c:Int)(m:cM):V:=.agg [I c,bh m]
theorem aji{c:Int}{m m':cM}(hm:RW m<1000000)(hm':RW m'<1000000)(h2:∀r∈m,RW r<1000000)(h3:∀r∈m',RW r<1000000):
  Ds F.yw [iI c m,iI c' m'] (B (decide (c=c'∧m=m'))):=by
 apply aj4;simp only[yw,iI];have eq:=XJ (g:=F.xM) (λx y hx hy=>agF (x:=x) (y:=y) aa aa) hm hm' h2 h3;by_cases e:c=c'
 .simp[e];refine cd eq ?_ (by simp[bY,bW,bh,ai,norm]);exact eG (by simp[e])
 .simp[e]
def yK(n:Int):Bool:=decide (n>1000000000)||decide (n < -1000000000)
theorem ado(n:Int):Ds F.zO [I n] (B (yK n)):=by
 apply adE;simp[zO];by_cases h:n>1000000000
 .simp[h]
  grind[eG,yK]
 .simp(disch:=omega) [h]
  grind[eG,yK]
def rM(c:Nat):cM->Int
 |[]=>0
 |r::q=>if 12<RW r then 4 else if RW r≠c then 5 else if r.any yK=Th then 4 else rM c q
def pL(m:cM):Int:=if 12<RW m then 4 else rM (RW (nth [] m 0)) m
theorem PZ{m:cM}(hm:RW m<1000000)(hr:∀r∈m,RW r<1000000)(K:KL):∀(q a:cM),m=a++q->(rM (RW (nth [] m 0)) q=0->K (.exit 0) [] [])->(rM (RW (nth [] m 0)) q≠0->K .ret [I (rM (RW (nth [] m 0)) q)] []) ->
  lp (E4 DA (bh m) (bh m) (I (RW m))) [] [] [I (RW a)] [] K
 | [],a,e,h0,h1=>by
  simp only[Zn]at e;subst e;apply aL;have PJ:¬((RW m:Int)<(RW m:Int)):=aa;simp only[E4];simp[PJ];exact h0 rfl
 | r::q,a,e,h0,h1=>by
  apply aL;have PJ:((RW a:Int)<(RW m:Int)):=by rw[e];simp;omega
  have hl:RW a<RW m:=aa;have hrm:r∈m:=by rw[e];simp
  have i1:bq [] 1 (bh m) (I (RW a))=Wf (.dptr (m.map row) (RW a)):=by rw[e];exact uh row a r q _ _
  have i2:ld1 [] (.dptr (m.map row) (RW a))=Wf (ai di r):=by
   rw[nr row m _ hl];simp only[e,Zf (Z8 _),Y7,Y8];rfl
  have j1:bq [] 1 (bh m) (.d (.int .i64 0))=Wf (.dptr (m.map row) 0):=ui row m [] rfl aa;have j2:ld1 [] (.dptr (m.map row) 0)=Wf (ai di (nth [] m 0)):=mS row [] m [] aa;simp only[E4];simp only[rM]at h0 h1;by_cases g1:12<RW r
  .have g1':((RW r:Int)>12):=aa;rw[ip g1]at h0 h1;simp[PJ,i1,i2,g1']
   grind
  .have g1':¬((RW r:Int)>12):=aa;rw[iN g1]at h0 h1;by_cases g2:RW r≠(RW (nth [] m 0))
   .have g2':(RW r:Int)≠(RW (nth [] m 0):Int):=aa;rw[ip g2]at h0 h1;simp[PJ,i1,i2,g1',j1,j2,g2']
    grind
   .have g2':(RW r:Int)=(RW (nth [] m 0):Int):=aa;rw[iN g2]at h0 h1;simp(disch:=omega) [PJ,i1,i2,g1',j1,j2,g2'];refine cd (ZS r aa λx _=>ado x) ?_;by_cases g3:r.any yK=Th
    .rw[ip g3]at h0 h1;simp[g3]
     grind
    .rw[iN g3]at h0 h1;have g3':r.any yK=SM:=by simpa using g3
     simp(disch:=omega) [g3'];have ih:=PZ hm hr K q (a++[r]) (by simp[e]) h0 h1;have e2:(RW (a++[r]):Int)=(RW a:Int)+1:=ac
     simp_all
theorem adA{m:cM}(hm:RW m<1000000)(hr:∀r∈m,RW r<1000000):Ds F.zP [bh m] (I (pL m)):=by
 apply adF;simp only[zP];have l1:bf (bh m)=Wf (I (RW m)):=rfl;by_cases g:12<RW m
 .have g':((RW m:Int)>12):=aa;simp[l1,g']
  grind[df,pL]
 .have g':¬((RW m:Int)>12):=aa;simp[l1,g'];refine lo (PZ hm hr _ m [] rfl (λe=>?_) (λe=>?_))
  .simp
   grind[df,pL]
  .simp
   grind[df,pL]
theorem akN(n:Int):Ds F.Br [I n] (B (n !=0)):=by
 apply akX;simp[Br]
 grind[eG]
theorem akM(hr:RW r<4611686018427387904):Ds F.Bs [ai di r] (I (oV r)):=by apply akW;simp[Bs];refine cd (Vx r hr λn _=>akN n) ?_;exact df rfl
theorem aob{g:FuncId}{cs:bA}{p:aw->Bool}(hs:∀x:aw,bY [] ([ai di x]++cs)=Wf ([ai di x]++cs,[]))(hc:bY [] cs=Wf (cs,[]))(l:cM)(hN:RW l<1000000)(hp:∀x∈l,CP Y g ([ai di x]++cs) (B (p x))):
  Ds F.Ab [bh l,.fn g [] cs] (B (l.any p)):=by
 apply aeN;simp[Ab];refine cd (v:=I (gn p l)) (aeF (MB (f:=row) (fs:=[]) (cs:=cs) l aa hs hp)) ?_ ?_
 .simp;have:=HG p l;have e:decide (0<=gn p l)=l.any p:=by rw[X8];simpa using this
  simp_all
 simp_all[bY,bW]
def tf(p:Nat)(r o:aw):Bool:=decide (nth 0 o p<0)||decide (nth 0 o p≥nth 0 r p)
theorem aca{p:Nat}{o:aw}(hr:p<RW r)(ho:p<RW o):Ds F.wE [ai di o,.dptr [.int .i64 p] 0,.dptr [row r] 0] (B (tf p r o)):=by
 apply akZ;simp only[wE];have d1:∀h:Hp,ld1 h (.dptr [.int .i64 (p:Int)] 0)=Wf (I p):=λh=>rfl
 have d2:∀h:Hp,ld1 h (.dptr [row r] 0)=Wf (ai di r):=λh=>rfl
 have i1:bq [] 1 (ai di o) (I p)=Wf (.dptr (o.map di) p):=ui di o [] rfl ho;have i2:ld1 [] (.dptr (o.map di) p)=Wf (I (nth 0 o p)):=mS di 0 o [] ho;have i3:bq [] 1 (ai di r) (I p)=Wf (.dptr (r.map di) p):=ui di r [] rfl hr;have i4:ld1 [] (.dptr (r.map di) p)=Wf (I (nth 0 r p)):=mS di 0 r [] hr;by_cases h:nth 0 o p<0
 .simp[d1,d2,i1,i2,i3,i4,h]
  grind[eG,tf]
 .simp[d1,d2,i1,i2,i3,i4,h]
  grind[eG,tf]
def um:Int->cM->cM->Bool
 |_,_,[]=>Th
 |before,done,r::q=>if oV r<=before∨nth 0 r (oV r).toNat<0 then SM else if done.any (tf (oV r).toNat r)=Th then SM else um (oV r) (done++[r]) q
theorem MK{m:cM}{c:Nat}(hm:RW m<1000000)(hc:c<1000000)(hr:∀r∈m,RW r=c)(K:KL):∀(q a:cM)(b:Int),-1<=b->m=a++q->(um b a q=Th->∀h,K (.exit 0) [] h)->(um b a q=SM->∀h,K .ret [B SM] h) ->
  lp (HQ DA (bh m) (bh m) (I (RW m))) [0,1] [ah,ah] [I b,I (RW a)] [ah,ah] K
 | [],a,b,hb,e,h0,h1=>by
  simp[Zn]at e;subst e;apply aL;have PJ:¬((RW m:Int)<(RW m:Int)):=aa;simp only[HQ];simp[PJ];exact h0 rfl _
 | r::q,a,b,hb,e,h0,h1=>by
  apply aL;have PJ:((RW a:Int)<(RW m:Int)):=by rw[e];simp;omega
  have hl:RW a<RW m:=aa;have hrm:r∈m:=by rw[e];simp
  have hrl:RW r=c:=hr r hrm;have i1:∀h:Hp,bq h 1 (bh m) (I (RW a))=Wf (.dptr (m.map row) (RW a)):=λh=>by simp_all
  have i2:∀h:Hp,ld1 h (.dptr (m.map row) (RW a))=Wf (ai di r):=λh=>by
   rw[nr row m _ hl];simp only[e,Zf (Z8 _),Y7,Y8];rfl
  have hp:=ahp r;simp only[HQ];have s1:st [(1,Bk.vars [V.d aR]),(0,Bk.none)] 1 (V.ptr 0 1 0 1) (ai di r)=Wf [(1,.vars [ai di r]),ah]:=by simp[st,jj,aH,bP,okV,ai]
  have g1:∀x:Nat×Bk,ld1 [(1,.vars [ai di r]),x] (V.ptr 0 1 0 1)=Wf (ai di r):=λx=>by rfl
  simp[PJ,i1,i2,s1,g1];refine cd (akM (r:=r) aa) ?_;have s2:∀z:Int,st [(1,.vars [ai di r]),(1,Bk.vars [V.d (D.int .i64 0)])] 1 (V.ptr 1 1 0 1) (I z)=Wf [(1,.vars [ai di r]),(1,.vars [I z])]:=λz=>by rfl
  have g2:∀(z:Int)(x:Nat×Bk),ld1 [x,(1,.vars [I z])] (V.ptr 1 1 0 1)=Wf (I z):=λz x=>by rfl
  simp only[um]at h0 h1;simp[s2,g2];by_cases c1:oV r<=b
  .rw[ip (.inl c1)]at h0 h1;simp[c1,s2,g2]
   grind
  .have⟨p,hpp⟩:∃p:Nat,oV r=p:=⟨(oV r).toNat,aa⟩;have hpr:p<RW r:=aa;rw[hpp]at h0 h1 c1 ⊢;rw[Int.toNat_natCast]at h0 h1;have i3:∀h:Hp,bq h 1 (ai di r) (I p)=Wf (.dptr (r.map di) p):=λh=>ui di r h rfl hpr
   have i4:∀h:Hp,ld1 h (.dptr (r.map di) p)=Wf (I (nth 0 r p)):=λh=>mS di 0 r h hpr
   by_cases c2:nth 0 r p<0
   .rw[ip (.inr c2)]at h0 h1;simp(disch:=omega) [c1,c2,s2,g2,g1,i3,i4]
    grind
   .rw[iN (by simp only[not_or];exact⟨c1,c2⟩)]at h0 h1
    have sl:∀h:Hp,gU h 1 (bh m) Vc (Wf (I (RW a)))=Wf (bh a):=λh=>by
     have:=QL row m (h:=h) (i:=RW a) (j:=RW a) aa rfl aa
     grind
    simp(disch:=omega) [c1,c2,s2,g2,g1,i3,i4,sl];have hct:=aob (g:=F.wE) (cs:=[.dptr [.int .i64 p] 0,.dptr [row r] 0]) (p:=tf p r) (λx=>by rfl) aN a aa λo ho=>aca hpr ae
    refine za (ds:=[bh a,.fn F.wE [] [.dptr [.int .i64 p] 0,.dptr [row r] 0]]) (h':=[(1,Bk.data 1 [row r] SM Th),(1,Bk.data 1 [.int .i64 p] SM Th)]) ?_ hct ?_
    .rfl
    .rw[show(if fk (B (a.any (tf p r)))=Th then[(1,Bk.vars [ai di r]),(1,Bk.vars [I (p:Int)])]else[(1,Bk.data 1 [row r] SM Th),(1,Bk.data 1 [.int .i64 p] SM Th)])=[(1,Bk.vars [ai di r]),(1,Bk.vars [I (p:Int)])]from rfl];by_cases c3:a.any (tf p r)=Th
     .rw[ip c3]at h0 h1;simp[c3]
      grind
     .rw[iN c3]at h0 h1;have c3':a.any (tf p r)=SM:=by simpa using c3
      have ih:=MK hm hc hr K q (a++[r]) p aa (by simp[e]) h0 h1;have e2:(RW (a++[r]):Int)=(RW a:Int)+1:=ac;rw[e2]at ih;simp(disch:=omega) [c3',g2];trivial
theorem P2{c:Nat}:∀{m:cM},rM c m=0->∀r∈m,RW r=c∧RW r<=12
 |[],_,r,hr=>by simp at hr
 | x::m,h,r,hr=>by
  simp only[rM]at h;split at h
  .omega
  .split at h
   .omega
   .split at h
    .omega
    .rename_i a1 a2 _;rcases Zx.1 hr with rfl|hr
     .exact⟨aa,aa⟩
     .exact P2 h r hr
theorem SP(b:Bool)(z:Int)(h:Hp):out (.tup [B b,I z]) (.tup [B b,I z]) h:=⟨h,aN⟩
def qP(m:cM):Bool:=decide (pL m=0)&&um (-1) [] m
theorem aku{m:cM}(hm:RW m<1000000)(hr:∀r∈m,RW r<1000000):Ds F.Bu [bh m] (.tup [B (qP m),I (pL m)]):=by
 apply ak0;simp only[Bu];simp;refine cd (adA hm hr) ?_ aN;by_cases h:pL m=0
 .have h12:¬12<RW m:=λg=>by grind[pL]
  have hl:=h;simp[pL,iN h12]at hl;have hc:=P2 hl
  have hcl:m≠[]->RW (nth [] m 0)<1000000:=λe=>by
   grind[Xn,gP]
  have hfo:Ds F.Bt [bh m] (B (um (-1) [] m)):=by
   apply akY;simp only[Bt];have l1:bf (bh m)=Wf (I (RW m)):=rfl;simp[l1];by_cases e:m=[]
   .subst e;refine lo (MK (c:=0) hm aa ac _ [] [] (-1) aa rfl (λe h=>?_) (λe h=>?_))
    .simp
     simp_all
    .cases e
   .refine lo (MK hm (hcl e) (λr hr=>(hc r hr).1) _ m [] (-1) aa rfl (λe h=>?_) (λe h=>?_))
    .simp
     simp_all
    .simp
     simp_all
  simp[h];refine cd hfo ?_ aN;have e:qP m=um (-1) [] m:=by simp[qP,h]
  grind[SP]
 .simp[h];have e:qP m=SM:=by simp[qP,h]
  grind[SP]
def sy(c:Int)(m:cM):Int:=if qN c m≠0 then qN c m else if qP m=Th then 0 else 7
theorem Mg{c:Int}{m:cM}(hm:RW m<1000000)(hr:∀r∈m,RW r<1000000):Ds F.wq [iI c m] (I (sy c m)):=by
 apply aj5;simp only[wq,iI];simp;refine cd (UY hm hr) ?_ aN;by_cases h:qN c m=0
 .simp[h];refine cd (aku hm hr) ?_ aN;by_cases h2:pL m=0
  .by_cases h3:qP m=Th
   .simp[h2,h3]
    grind[df,sy]
   .have h3':qP m=SM:=by simpa using h3
    simp[h2,h3']
    grind[df,sy]
  .have h3':qP m=SM:=by simp[qP,h2]
   simp[h2,h3']
   grind[df,sy]
 .simp[h]
  grind[df,sy]
def o7(n:Int)(p:Mz):Hp:=[(1,.vars [I 0,jO]),(1,.vars [I n,(bz 2).v (RW p) (p.map row)]),(bz 2).b (RW p) (p.map row)]
theorem T6{m:Mz}{n:Int}(hm:RW m<1000)(hr:∀r∈m,RW r<1000000)(hz:∀r∈m,∀z∈r,-1000000000<=z∧z<=1000000000)(h0:Hp)(K:KL):∀(q p:Mz),m=p++q->K (.exit 0) [] (o7 n m) ->
  lp (Hh DA (.ptr 0 1 0 2) (.ptr 1 1 0 2) (kU m) (I (RW m))) [] h0 [I (RW p)] (o7 n p) K
 | [],p,e,hK=>by
  simp only[Zn]at e;subst e;apply aL;have PJ:¬((RW m:Int)<(RW m:Int)):=aa;simp only[Hh];simp[PJ];exact hK
 | r::q,p,e,hK=>by
  apply aL;have PJ:((RW p:Int)<(RW m:Int)):=by rw[e];simp;omega
  have hrm:r∈m:=by rw[e];simp
  have DP:RW p<RW m:=aa;have⟨H,hH⟩:=bD (o7 n p);have i1:bq H 1 (kU m) (I (RW p))=Wf (.dptr (m.map jX) (RW p)):=by rw[e];exact Vj p r q H
  have i2:ld1 H (.dptr (m.map jX) (RW p))=Wf (ai sI r):=by rw[e];exact US p r q H
  rw[<-hH];simp only[Hh];simp[PJ,i1,i2];refine cd (aiS (hz r hrm) (hr r hrm)) ?_;have f1:ld1 H (.ptr 1 1 1 2)=Wf ((bz 2).v (RW p) (p.map row)):=by rw[hH];simp[ld1,o7,aH]
  have hli:cL 1 [aR] [(0,ai di r)] H=Wf ([row r],H):=by simp[cL,dF,dY,dS,norm,ai,row]
  simp[f1,hli];refine mG (bz 2) (Nd:=24) (k:=1) (cs:=[row r]) aa (by rw[hH];rfl) (by simp[bz]) aN rfl ae aa (by simp[bz]) ?_;have hs:H.set (bz 2).s ((bz 2).b (RW p+1) (p.map row++[row r]))=[(1,.vars [I 0,jO]),(1,.vars [I n,(bz 2).v (RW p) (p.map row)]),(bz 2).b (RW p+1) (p.map row++[row r])]:=by rw[hH];rfl
  have DB:st [(1,.vars [I 0,jO]),(1,.vars [I n,(bz 2).v (RW p) (p.map row)]),(bz 2).b (RW p+1) (p.map row++[row r])] 1 (.ptr 1 1 1 2) ((bz 2).v (RW p+1) (p.map row++[row r]))=Wf (o7 n (p++[r])):=by
   simp[st,jj,aH,bP,okV,o7,Acc.v,Acc.b]
  have ih:=T6 hm hr hz h0 K q (p++[r]) (by simp[e]) hK;have e2:(RW (p++[r]):Int)=(RW p:Int)+1:=ac;rw[e2]at ih;rw[hs];simp only[Acc.v,Acc.b]at DB ⊢;simp(disch:=try exact cj)[DB]
  simp_all[kh,o7]
theorem LI{n:Int}(hm:RW m<1000)(hr:∀r∈m,RW r<1000000)(hz:∀r∈m,∀z∈r,-1000000000<=z∧z<=1000000000):Ds F.wj [kU m,I n] (.tup [iI n m,I 0]):=by
 apply ajF;simp only[wj];have l1:bf (kU m)=Wf (I (RW m)):=rfl;simp[l1];refine lo (T6 hm hr hz _ _ m [] rfl ?_);have g1:aG (o7 n m) 2 (.ptr 1 1 0 2)=Wf (.agg [I n,(bz 2).v (RW m) (m.map row)]):=by simp[aG,o7,aH]
 have okv:okV ((bz 2).v (RW m) (m.map row))=Th:=by cases m<;>rfl
 have s1:st (o7 n m) 2 (.ptr 0 1 0 2) (.agg [I n,(bz 2).v (RW m) (m.map row)])=Wf [(1,.vars [I n,(bz 2).v (RW m) (m.map row)]),(1,.vars [I n,(bz 2).v (RW m) (m.map row)]),(bz 2).b (RW m) (m.map row)]:=by
  simp[st,jj,o7,aH,bP,okv]
 have g2:aG [(1,.vars [I n,(bz 2).v (RW m) (m.map row)]),(1,.vars [I n,(bz 2).v (RW m) (m.map row)]),(bz 2).b (RW m) (m.map row)] 2 (.ptr 0 1 0 2)=Wf (.agg [I n,(bz 2).v (RW m) (m.map row)]):=by simp[aG,aH]
 show(bnd (aG (o7 n m) 2 (.ptr 1 1 0 2)) λv7=>aS (o7 n m) 2 (.ptr 0 1 0 2) v7 λx h=>bnd (aG h 2 (.ptr 0 1 0 2)) λv9=>out (.tup [iI n m,I 0]) (.tup [v9,.d (.int .i64 0)]) h)
 simp only[g1,bnd,aS,s1,g2];have⟨h',e1,_⟩:=oC (bz 2) (L:=RW m) (cells:=m.map row) (h:=[(1,.vars [I n,(bz 2).v (RW m) (m.map row)]),(1,.vars [I n,(bz 2).v (RW m) (m.map row)]),(bz 2).b (RW m) (m.map row)]) rfl (by simp[bz]);refine⟨h',?_⟩
 simp_all[bW,bY,iI,ai]
structure jD(n:Nat)(m:Mz):Prop where
 n0:0<n
 n12:n<=12
 ml:RW m<=12
 rl:∀r∈m,RW r=n
 sm:∀r∈m,∀z∈r,-1000000000<=z∧z<=1000000000
theorem U3{f:Nat}{z:Mz}(hB:Bd<=100000)(hl:sy n m=0)(ho:jD n m)(hk:kW Bd f n m=Wf z)(hz:jD n z):Ds F.yx [iI n m] (.tup [iI n z,I 0]):=by
 apply aj6;simp only[yx,iI];simp;have hrl:∀r∈m,RW r<1000000:=λr hr=>by rw[ho.rl r hr];have:=ho.n12;omega
 have hml:=ho.ml;have hn:=ho.n12;refine cd (args:=[iI n m]) (Mg aa hrl) ?_ aN;have c1:=Ug (m:=m) ho.ml hrl (λr hr z hz=>by have:=ho.sm r hr z hz;omega);have c2:=Mm (m:=m) (n:=n) ho.n0 aa ho.rl aa hB hk;have c3:=LI (m:=z) (n:=n) (by grind[jD.ml]) (λr hr=>by grind[jD.rl]) hz.sm;simp[hl];refine cd c1 ?_ aN;simp
 refine cd c2 ?_ aN;simp;refine cd c3 ?_ aN;have ok1:okV (bh z)=Th:=rfl;simp[iI,ok1];exact⟨_,aN⟩
theorem T8{f:Nat}{y z:Mz}(hB:Bd<=100000)(hl:sy n m=0)(ho:jD n m)(hk:kW Bd f n m=Wf y)(hy:∀r∈y,RW r=n)(hyl:RW y<1000)(hk2:kW Bd f n y=Wf z)(hz:jD n z):Ds F.yv [iI n m] (.tup [iI n z,I 0]):=by
 apply aj2;simp only[yv,iI];simp;have hrl:∀r∈m,RW r<1000000:=λr hr=>by rw[ho.rl r hr];have:=ho.n12;omega
 have hml:=ho.ml;have hn:=ho.n12;refine cd (args:=[iI n m]) (Mg aa hrl) ?_ aN;have c1:=Ug (m:=m) ho.ml hrl (λr hr z hz=>by have:=ho.sm r hr z hz;omega);have c2:=Mm (m:=m) (n:=n) ho.n0 aa ho.rl aa hB hk;have c4:=Mm (m:=y) (n:=n) ho.n0 aa hy hyl hB hk2
 have c3:=LI (m:=z) (n:=n) (by grind[jD.ml]) (λr hr=>by grind[jD.rl]) hz.sm;simp[hl];refine cd c1 ?_ aN;simp;refine cd c2 ?_ aN;simp;refine cd c4 ?_ aN;simp;refine cd c3 ?_ aN;have ok1:okV (bh z)=Th:=rfl;simp[iI,ok1];exact⟨_,aN⟩
theorem BV{o:Option V}{v:V}{k:V->Prop}(h:o=Wf v)(hk:k v):bnd o k:=by simp_all
def jT(p:aw)(c w:Mz):V:=.agg [ai di p,bh c,bh w]
structure w7(p:aw)(c w:Mz):Prop where
 pr:d8 p=0
 lc:jD (RW p) c
 lw:jD (RW p) w
 ch:sy (RW p) c=0
 k1:∃B f,B<=100000∧kW B f (RW p) c=Wf w∧kW B f (RW p) w=Wf c
theorem ac1(x y:aw)(hx:RW x<1000000)(hy:RW y<1000000):Ds F.xk [.d (row x),.d (row y)] (B (decide (x=y))):=by apply adv;simp only[xk];simp;refine cd (args:=[ai di x,ai di y]) (XH aa aa) ?_ aN;simp
theorem ac0{m':Mz}(hm:RW m<1000000)(hm':RW m'<1000000)(h2:∀r∈m,RW r<1000000)(h3:∀r∈m',RW r<1000000):Ds F.zL [bh m,bh m'] (B (decide (m=m'))):=by apply adu;simp only[zL];simp;refine cd (XJ (g:=F.xk) ac1 hm hm' h2 h3) ?_ aN;simp
theorem jD.rl6(h:jD n m):∀r∈m,RW r<1000000:=λr hr=>by rw[h.rl r hr];have:=h.n12;omega
theorem adc{p:aw}{c w w':Mz}(h:w7 p c w)(h1:RW w'<1000000)(h2:∀r∈w',RW r<1000000):Ds F.uX [jT p c w'] (I (if w=w' then 0 else 14)):=by
 apply ady;simp only[uX,jT];have hn:=h.lc.n12;have hcl:=h.lc.ml;have hwl:=h.lw.ml;have a1:=AG (p:=p) aa;rw[h.pr]at a1;have a2:=Mg (c:=RW p) (m:=c) aa h.lc.rl6;rw[h.ch]at a2;have⟨Bd,f,hB,k1,k2⟩:=h.k1;have a3:=T8 hB h.ch h.lc k1 h.lw.rl aa k2 h.lc;have a4:=U3 hB h.ch h.lc k1 h.lw
 have a5:Ds F.yw [iI (RW p) c,iI (RW p) c] (B Th):=by
  have:=aji (c:=RW p) (c':=RW p) (m:=c) (m':=c) aa aa h.lc.rl6 h.lc.rl6;simpa using this
 have a6:=ac0 (m:=w) (m':=w') aa h1 h.lw.rl6 h2;have l1:bf (ai di p)=Wf (I (RW p)):=rfl;simp;refine cd a1 ?_;have ok1:∀m:Mz,okV (ai row m)=Th:=λ_=>rfl
 simp[iI,bh]at a2 a3 a4 a5 a6;simp[l1,ok1];refine cd a2 ?_ aN;simp;refine cd a3 ?_ aN;simp[ok1];refine cd a5 ?_ aN;simp;refine cd a4 ?_ aN;simp[ok1];refine cd (args:=[ai row w,ai row w']) a6 ?_ aN;by_cases e:w=w'<;>simp[e]
theorem PE{p:aw}{c w:Mz}(h:w7 p c w):Ds F.uX [jT p c w] (I 0):=by simpa using adc h (by have:=h.lw.ml;omega) h.lw.rl6
def uY(n:Nat):Mz->Int
 |[]=>0
 |r::q=>if mN r≠0 then mN r else if RW r≠n then 5 else uY n q
variable{p:aw}{c w:Mz}
theorem P3{m:Mz}(hm:RW m<1000000)(hr:∀r∈m,RW r<1000000)(e:Nat)(h0:Hp)(K:KL):∀(q a:Mz),m=a++q->(uY (RW p) q=0->K (.exit 0) [] [(e,.vars [ai di p,bh c,bh w])])->(uY (RW p) q≠0->K .ret [I (uY (RW p) q)] [(e,.vars [ai di p,bh c,bh w])]) ->
  lp (E0 DA (.ptr 0 e 0 3) (bh m) (I (RW m))) [] h0 [I (RW a)] [(e,.vars [ai di p,bh c,bh w])] K
 | [],a,e1,h1,h2=>by
  simp[Zn]at e1;subst e1;apply aL;have PJ:¬((RW m:Int)<(RW m:Int)):=aa;simp only[E0];simp[PJ];exact h1 rfl
 | r::q,a,e1,h1,h2=>by
  apply aL;have PJ:((RW a:Int)<(RW m:Int)):=by rw[e1];simp;omega
  have hl:RW a<RW m:=aa;have i1:∀h:Hp,bq h 1 (bh m) (I (RW a))=Wf (.dptr (m.map row) (RW a)):=λh=>by simp_all
  have i2:∀h:Hp,ld1 h (.dptr (m.map row) (RW a))=Wf (ai di r):=λh=>by
   rw[nr row m _ hl];simp only[e1,Zf (Z8 _),Y7,Y8];rfl
  have l1:bf (ai di r)=Wf (I (RW r)):=rfl;have l2:bf (ai di p)=Wf (I (RW p)):=rfl;have g1:ld1 [(e,.vars [ai di p,bh c,bh w])] (.ptr 0 e 0 3)=Wf (ai di p):=by simp[ld1,aH]
  simp only[E0];simp[PJ,i1,i2];refine cd (Ss ae) ?_;simp only[uY]at h1 h2;by_cases c1:mN r=0
  .rw[iN (by simp[c1])]at h1 h2;by_cases c2:RW r=RW p
   .rw[iN (by simp[c2])]at h1 h2;have c2':(RW r:Int)=(RW p:Int):=aa;simp(disch:=omega) [c1,l1,l2,g1,c2'];rw[kh];have ih:=P3 hm hr e h0 K q (a++[r]) ae h1 h2
    simp_all
   .rw[ip c2]at h1 h2;have c2':¬(RW r:Int)=(RW p:Int):=aa
    simp_all
  simp_all
theorem adB(h:w7 p c w)(hm:RW m<1000000)(hr:∀r∈m,RW r<1000000):Ds F.zM [jT p c w,bh m] (I (uY (RW p) m)):=by
 apply adw;simp only[zM,jT];simp;refine cd (args:=[jT p c w]) (PE h) ?_ aN;have l1:bf (bh m)=Wf (I (RW m)):=rfl;simp[l1];refine lo (P3 hm hr 1 _ _ m [] rfl (λe=>?_) (λe=>?_))
 .simp_all
 simp
def lU:aw->aw->Int
 |x::xs,y::ys=>x*y+lU xs ys
 |_,_=>0
def nL(l:aw):Prop:=∀x∈l,-1000000000<=x∧x<=1000000000
theorem PW{x v:aw}(hl:RW v=RW x)(hn:RW x<=64)(hx:nL x)(hv:nL v)(h0 h:Hp)(K:KL):∀(q qv a av:aw)(s:Int),x=a++q->v=av++qv->RW av=RW a->s.natAbs<=1000000000000000000*RW a ->
  K (.exit 2) [S (itoa (s+lU q qv))] h ->
  lp (EY DA (ai di v) (ai di x) (I (RW x))) [] h0 [S (itoa s),I (RW a)] h K
 | [],qv,a,av,s,e1,e2,e3,hs,hK=>by
  simp[Zn]at e1;subst e1;apply aL;have PJ:¬((RW x:Int)<(RW x:Int)):=aa
  simp_all[EY,lU]
 | b::q,[],a,av,s,e1,e2,e3,hs,hK=>by
  grind
 | b::q,d::qv,a,av,s,e1,e2,e3,hs,hK=>by
  apply aL;have PJ:((RW a:Int)<(RW x:Int)):=by rw[e1];simp;omega
  have i1:bq h 1 (ai di x) (I (RW a))=Wf (.dptr (x.map di) (RW a)):=by rw[e1];exact uh di a b q _ _
  have i2:ld1 h (.dptr (x.map di) (RW a))=Wf (I b):=by
   rw[nr di x _ aa];simp only[e1,Zf (Z8 _),Y7,Y8];rfl
  have i3:bq h 1 (ai di v) (I (RW a))=Wf (.dptr (v.map di) (RW a)):=by rw[e2,<-e3];exact uh di av d qv _ _
  have i4:ld1 h (.dptr (v.map di) (RW a))=Wf (I d):=by
   rw[nr di v _ aa];simp only[e2,<-e3,Zf (Z8 _),Y7,Y8];rfl
  have hb:=hx b ae;have hd:=hv d ae;have n18:∀z:Int,z.natAbs<10^30->ay z.natAbs<400000:=λz hz=>Ze (ef hz au) au
  have h3:(b*d).natAbs<=1000000000*1000000000:=by
   rw[Zl];exact Zr aa aa
  simp only[EY];simp[PJ,i1,i2];refine cd (kq (z:=b) aa aa) ?_;simp[i3,i4];refine cd (kq (z:=d) aa aa) ?_;simp;refine cd (xc (z:=b) (w:=d) (n18 _ aa) (n18 _ aa)) ?_;simp;refine cd (zx (z:=s) (w:=b*d) (by have:=n18 s aa;omega) (by have:=n18 (b*d) aa;omega)) ?_
  have ih:=PW hl hn hx hv h0 h K q qv (a++[b]) (av++[d]) (s+b*d) ae ae ae ae (by
   have:s+b*d+lU q qv=s+lU (b::q) (d::qv):=by simp[lU];omega
   grind)
  have e4:(RW (a++[b]):Int)=(RW a:Int)+1:=ac;rw[e4]at ih;simp(disch:=omega) []
  grind[kh,lo]
def fj(w:Mz)(x:aw):aw:=w.map λv=>lU x v
theorem PX{x:aw}{w:Mz}(hw:RW w<1000)(hl:∀v∈w,RW v=RW x)(hn:RW x<=64)(hx:nL x)(hv:∀v∈w,nL v)(b0:Nat×Bk)(h0:Hp)(K:KL):∀(q a:Mz),w=a++q ->
  K (.exit 0) [(bz 1).v (RW w) ((fj w x).map sI)] [b0,(bz 1).b (RW w) ((fj w x).map sI)] ->
  lp (EZ DA (ai di x) (bh w) (I (RW w))) [] h0 [(bz 1).v (RW a) ((fj a x).map sI),I (RW a)] [b0,(bz 1).b (RW a) ((fj a x).map sI)] K
 | [],a,e,hK=>by
  simp[Zn]at e;subst e;apply aL;have PJ:¬((RW w:Int)<(RW w:Int)):=aa
  simp_all[EZ]
 | v::q,a,e,hK=>by
  apply aL;have PJ:((RW a:Int)<(RW w:Int)):=by rw[e];simp;omega
  have DQ:RW a<RW w:=aa;have hvm:v∈w:=by rw[e];simp
  have i1:∀h:Hp,bq h 1 (bh w) (I (RW a))=Wf (.dptr (w.map row) (RW a)):=λh=>by simp_all
  have i2:∀h:Hp,ld1 h (.dptr (w.map row) (RW a))=Wf (ai di v):=λh=>by
   rw[nr row w _ DQ];simp only[e,Zf (Z8 _),Y7,Y8];rfl
  have l1:bf (ai di x)=Wf (I (RW x)):=rfl;have⟨H,hH⟩:∃H:Hp,H=[b0,(bz 1).b (RW a) ((fj a x).map sI)]:=⟨_,rfl⟩;rw[<-hH];simp only[EZ];simp[PJ,i1,i2,l1]
  have e48:V.d (D.str [48])=S (itoa 0):=by
   have:itoa 0=[48]:=du;rw[this]
  rw[e48];refine lo (PW (hl v hvm) hn hx (hv v hvm) _ H _ x v [] [] 0 rfl rfl rfl ac ?_);have hli:cL 1 [.str []] [(0,S (itoa (lU x v)))] H=Wf ([sI (lU x v)],H):=by simp[cL,dF,dY,dS,norm,sI]
  simp[hli];have ez:fj (a++[v]) x=fj a x++[lU x v]:=by simp[fj]
  refine mG (bz 1) (Nd:=16) (k:=1) (cs:=[sI (lU x v)]) aa (by rw[hH];rfl) (by simp[bz,fj]) aN rfl ae aa (by simp[bz]) ?_;have hs:H.set (bz 1).s ((bz 1).b (RW a+1) ((fj a x).map sI++[sI (lU x v)]))=[b0,(bz 1).b (RW a+1) ((fj a x).map sI++[sI (lU x v)])]:=by rw[hH];rfl
  rw[hs];have ih:=PX hw hl hn hx hv b0 h0 K q (a++[v]) (by simp[e]) hK;have e4:(RW (a++[v]):Int)=(RW a:Int)+1:=ac;rw[e4,ez,Yt,List.length_append]at ih;simp(disch:=omega) []
  simp_all[kh]
theorem adz(h:w7 p c w){x:aw}(hl:RW x=RW p)(hx:nL x):Ds F.zK [jT p c w,ai di x] (ai sI (fj w x)):=by
 apply adt;simp only[zK,jT];have l1:bf (bh w)=Wf (I (RW w)):=rfl;have hn:=h.lc.n12;have hwl:=h.lw.ml;simp[l1];refine lo (PX aa (λv hv=>by rw[h.lw.rl v hv,hl]) aa hx (λv hv=>h.lw.sm v hv) _ _ _ w [] rfl ?_);simp
 have⟨h',e1,_⟩:=oC (bz 1) (L:=RW w) (cells:=(fj w x).map sI) (h:=[(1,.vars [ai di p,bh c,bh w]),(bz 1).b (RW w) ((fj w x).map sI)]) rfl (by simp[bz,fj]);refine⟨h',?_⟩
 grind[ai,fj]
theorem abl{l:aw}(hn:RW l<1000)(hz:nL l)(b0:Nat×Bk)(h0:Hp)(K:KL):∀(q a:aw),l=a++q->K (.exit 0) [(bz 1).v (RW l) (l.map di)] [b0,(bz 1).b (RW l) (l.map di)] ->
  lp (E3 DA (ai sI l) (I (RW l))) [] h0 [(bz 1).v (RW a) (a.map di),I (RW a)] [b0,(bz 1).b (RW a) (a.map di)] K
 | [],a,e,hK=>by
  simp[Zn]at e;subst e;apply aL;have PJ:¬((RW l:Int)<(RW l:Int)):=aa
  simp_all[E3]
 | z::q,a,e,hK=>by
  apply aL;have PJ:((RW a:Int)<(RW l:Int)):=by rw[e];simp;omega
  have hzb:=hz z ae;have i1:∀h:Hp,bq h 1 (ai sI l) (I (RW a))=Wf (.dptr (l.map sI) (RW a)):=λh=>by simp_all
  have i2:∀h:Hp,ld1 h (.dptr (l.map sI) (RW a))=Wf (S (itoa z)):=λh=>by
   grind[nr,sI]
  have⟨H,hH⟩:∃H:Hp,H=[b0,(bz 1).b (RW a) (a.map di)]:=⟨_,rfl⟩;rw[<-hH];have g1:¬(z>1000000000):=aa;have g2:¬(z < -1000000000):=aa;have hli:cL 1 [.int .i64 0] [(0,I z)] H=Wf ([di z],H):=by simp[cL,dF,dY,dS,norm];rfl
  simp only[E3];simp[PJ,i1,i2];refine cd (J0 (z:=z) aa) ?_;simp[g1,g2,hli];refine mG (bz 1) (Nd:=8) (k:=1) (cs:=[di z]) aa (by rw[hH];rfl) (by simp[bz]) aN rfl ae aa (by simp[bz]) ?_;have hs:H.set (bz 1).s ((bz 1).b (RW a+1) (a.map di++[di z]))=[b0,(bz 1).b (RW a+1) (a.map di++[di z])]:=by rw[hH];rfl
  rw[hs];have ih:=abl hn hz b0 h0 K q (a++[z]) (by simp[e]) hK;have e4:(RW (a++[z]):Int)=(RW a:Int)+1:=ac;rw[e4,Yt,List.length_append]at ih;simp(disch:=omega) []
  simp_all[kh]
theorem apX(h:w7 p c w){x:aw}(hl:RW x=RW p)(hx:nL x)(hr:mN x=0)(hz:nL (fj w x)):Ds F.zN [jT p c w,ai di x] (.tup [ai di (fj w x),I 0]):=by
 apply adx;simp only[zN,jT];have hn:=h.lc.n12;have hwl:=h.lw.ml;have hli:cL 1 [aR] [(0,ai di x)] [(1,Bk.vars [ai di p,bh c,bh w]),(0,Bk.none)]=Wf ([row x],[(1,Bk.vars [ai di p,bh c,bh w]),(0,Bk.none)]):=by simp[cL,dF,dY,dS,norm,ai,row]
 have tb:uY (RW p) [x]=0:=by simp[uY,hr,hl]
 have b1:=adB h (m:=[x]) ac ae;rw[tb]at b1;simp[hli];refine cd (args:=[jT p c w,bh [x]]) b1 ?_ aN;simp;refine cd (args:=[jT p c w,ai di x]) (adz h hl hx) ?_ aN;have l1:bf (ai sI (fj w x))=Wf (I (RW (fj w x))):=rfl;simp[l1];refine lo (abl (by grind[fj]) hz _ _ _ (fj w x) [] rfl ?_);simp
 have⟨h',e1,_⟩:=oC (bz 1) (L:=RW (fj w x)) (cells:=(fj w x).map di) (h:=[(1,.vars [ai di p,bh c,bh w]),(bz 1).b (RW (fj w x)) ((fj w x).map di)]) rfl (by simp[bz]);refine⟨h',?_⟩;simp only[bW,bY,e1,norm];rfl
theorem ahv{d:Int}(hd:d≠0)(h1 : -9223372036854775808<z)(h2:z<9223372036854775808)(h3 : -9223372036854775808<d)(h4:d<9223372036854775808):Ds F.xJ [I z,I d] (.agg (qT (js z d))):=by apply agb;have fo:Ds F.sL [I z,I d] (.tup [.agg [S (itoa (js z d).1),S (aA (js z d).2)],I 0]):=MR hd h1 h2 h3 h4;simp[xJ];refine cd fo ?_;simp;exact nh rfl rfl
def yQ:aw:=[1,2,3,4,6,12]
def qh(b:Nat):Int:=yQ.getD (b%6) 1
theorem Nu(b:Nat):qh b=1∨qh b=2∨qh b=3∨qh b=4∨qh b=6∨qh b=12:=by unfold qh;have h:b%6<6:=Y5 _ au;generalize b%6=j at *;have:j=0∨j=1∨j=2∨j=3∨j=4∨j=5:=aa;rcases this with rfl|rfl|rfl|rfl|rfl|rfl<;>simp[yQ]
def ia(a:Int)(b:Nat):Q:=js (a.tmod 41) (qh b)
theorem WE{a:Int}{b:Nat}(ha : -128<=a∧a<=127)(hb:b<256):Ds F.vG [.agg [.d (.int .i8 a),.d (.int .u8 b)]] (.agg (qT (ia a b))):=by
 apply agd;have r1 : -41<a.tmod 41:=Int.lt_tmod_of_pos a au;have r2:=Int.tmod_lt_of_pos a (b:=41) au;have hd:=Nu b;have pt:Ds F.xJ [I (a.tmod 41),I (qh b)] (.agg [S (itoa (ia a b).1),S (aA (ia a b).2)]):=ahv (z:=a.tmod 41) (d:=qh b) aa aa aa aa aa
 have hkk:b%6<6:=Y5 _ au;have i1:=λH:Hp=>mn di yQ H (k:=.u8) (i:=((b%6:Nat):Int)) aa (by show((b%6:Nat):Int)<6;omega)
 have i2:=λH:Hp=>mS di 1 yQ H (j:=b%6) hkk
 have hn:nth 1 yQ (b%6)=qh b:=rfl
 have m1:aD .rem (.d (.int .u8 (b:Int))) (.d (.int .u8 6))=Wf (.d (.int .u8 ((b%6:Nat):Int))):=by
  rw[aaH aa,Zt aa];congr 3
 rw[hn]at i2;simp only[Int.toNat_natCast]at i1;have⟨c,hc⟩:=bD (yQ.map di)
 have i1':∀H:Hp,bq H 1 (.d (.sl 6 c)) (.d (.int .u8 ((b%6:Nat):Int)))=Wf (.dptr c (b%6)):=λH=>by
  have:=i1 H;rw[<-hc]at this;rw[<-this,hc];rfl
 have i2':∀H:Hp,ld1 H (.dptr c (b%6))=Wf (I (qh b)):=λH=>by rw[hc];exact i2 H
 have hl6:∀H:Hp,cL 6 [D.int iK.i64 0] [(0,V.d (D.int iK.i64 1)),(1,V.d (D.int iK.i64 2)),(2,V.d (D.int iK.i64 3)),(3,V.d (D.int iK.i64 4)),(4,V.d (D.int iK.i64 6)),(5,V.d (D.int iK.i64 12))] H=Wf (c,H):=λH=>by
  rw[hc];simp[cL,dF,dY,dS,di,yQ]
 have hm:((b:Int).tmod 6)=(b:Int)%6:=Zt aa;have i1'':∀H:Hp,bq H 1 (.d (.sl 6 c)) (.d (.int .u8 ((b:Int)%6)))=Wf (.dptr c (b%6)):=i1';simp(disch:=try exact cj)[vG,hl6,hm,i1'',i2'];refine cd pt ?_;simp;exact nh rfl rfl
def nY(e:List (Int×Nat)):bA:=e.flatMap λx=>[.d (.int .i8 x.1),.d (.int .u8 x.2)]
def kJ:Acc:=⟨2,0,2,.none⟩
def m6(k:Nat)(e:List (Int×Nat)):List Q:=(e.take k).map λx=>ia x.1 x.2
def lh(k:Nat)(e:List (Int×Nat)):bF:=((m6 k e).map tx).flatMap bb
def yf(e:List (Int×Nat))(i:Nat):Hp:=[(1,.vars (nY e)),(1,.data 2 [] Th SM),kJ.b i (lh i e)]
def sk(e:List (Int×Nat))(i:Nat):V:=if i=0 then .ref 1 1 0 0 0 0 else kJ.v i (lh i e)
theorem Ta:∀e:List (Int×Nat),offB [] (.vars (nY e))=Th
 |[]=>rfl
 | x::e=>by
  have:=Ta e;rw[AP]at this ⊢;simp only[nY,Xy,List.cons_append,List.nil_append,fA,gY]at this ⊢;simpa[nY]using this
theorem WC(a:Int)(b:Nat):gE (ia a b):=by apply aiV;have:=Nu b;omega
theorem app0{y:V}{cs:bF}{x0:Nat×Bk}{q:bH}{u:PU q}(hcs:RW cs=2)(hy:∀h,cellsOf h y=Wf (1,cs))(hyn:∀t,y≠.d (.str t))(hq:q (kJ.v 1 cs) [x0,(1,.data 2 [] Th SM),kJ.b 1 cs]) :
  rh (cX SM 2 2 32 (.ref 1 1 0 0 0 0) y [x0,(1,.data 2 [] Th SM),ah]) q u:=by
 show cX SM 2 2 32 (.ref 1 1 0 0 0 0) y [x0,(1,.data 2 [] Th SM),ah] q
 have e1:cX SM 2 2 32 (.ref 1 1 0 0 0 0) y [x0,(1,.data 2 [] Th SM),ah] q=kG SM 2 2 32 (.ref 1 1 0 0 0 0) 1 cs [x0,(1,.data 2 [] Th SM),ah] q:=by
  unfold cX;split
  .rename_i t;exact absurd rfl (hyn t)
  .rw[hy];simp only[hcs,iT]
 rw[e1];unfold kG;rw[iN au];simp only[aH];simp[hcs,new];simpa[kJ,Acc.v,Acc.b,hcs]using hq
theorem ag5(he:RW e=4){x:Int×Nat}(hx:e[j]?=Wf x)(x1 x2:Nat×Bk):
  mT 4 2 (.ptr 0 1 0 8) (I (j:Int))=Wf (.ptr 0 1 (j*2) 8)∧aG [(1,.vars (nY e)),x1,x2] 2 (.ptr 0 1 (j*2) 8)=Wf (.agg [.d (.int .i8 x.1),.d (.int .u8 x.2)]):=by
 match e,he with
 | [a,b,c,d],_=>
  have hj:j<4:=by
   rcases Zi j 4 with h|h
   .exact h
   .rw[List.getElem?_eq_none (by simpa using h)]at hx;cases hx
  have:j=0∨j=1∨j=2∨j=3:=aa;rcases this with rfl|rfl|rfl|rfl<;>simp at hx<;>subst hx<;>exact⟨rfl,rfl⟩
theorem TX{p:aw}{e:List (Int×Nat)}(he:RW e=4)(hb:∀x∈e,(-128<=x.1∧x.1<=127)∧x.2<256)(hp:RW p<=4)(k:KL)(h0:Hp)(hh:RW h0=3):∀(f i:Nat),i+f=RW p ->
  k (.exit 0) [sk e (RW p)] (yf e (RW p)) ->
  lp (FM DA (ai di p) (.ptr 0 1 0 8)) [] h0 [sk e i,I i] (yf e i) k
 | 0,i,hi,hk=>by
  have g:¬(i:Int)<(RW p:Int):=aa;have:i=RW p:=aa;subst this;have l1:bf (ai di p)=Wf (I (RW p)):=rfl;apply aL;simp[FM,l1];exact hk
 | f+1,i,hi,hk=>by
  have g:(i:Int)<(RW p:Int):=aa;have l1:bf (ai di p)=Wf (I (RW p)):=rfl;have ex:∃x,e[i]?=Wf x:=⟨_,List.getElem?_eq_getElem aa⟩;have⟨x,hx⟩:=ex;have⟨⟨b1,b2⟩,b3⟩:=hb x (Yb hx);have⟨pa,pb⟩:=ag5 he hx (1,.data 2 [] Th SM) (kJ.b i (lh i e))
  have fr:Ds F.vG [.agg [.d (.int .i8 x.1),.d (.int .u8 x.2)]] (.agg (qT (ia x.1 x.2))):=WE ⟨b1,b2⟩ b3;have ih:=TX he hb hp k h0 hh f (i+1) aa hk;have r4:(i:Int).tmod 4=(i:Int):=Int.tmod_eq_of_lt aa aa
  have es:lh (i+1) e=lh i e++bb (tx (ia x.1 x.2)):=by
   unfold lh m6;rw[Wq,hx];simp
  have lq:∀H,cL 1 [D.str [],D.str []] [(0,.agg (qT (ia x.1 x.2)))] H=Wf (bb (tx (ia x.1 x.2)),H):=λH=>Dq _ H
  have hre:∀y:Hp,RW y=3->dl [] 0 h0 y=y:=λy hy=>xP 0 h0 y aa
  have lce:RW (lh i e)=i*2:=by
   unfold lh;rw[jy bb dV,List.length_map];simp[m6];omega
  have lt2:RW (bb (tx (ia x.1 x.2)))=2:=dV _;apply aL;simp[FM,l1,g,r4,yf,pa,pb];refine cd fr ?_ (by simp[bY,bW]);simp[lq];have off1:offB [] (.data 2 [] Th SM)=Th:=rfl;have off2:∀cs,offB [] (.data 2 cs SM SM)=Th:=λcs=>rfl
  have hpt:=Ta e;by_cases h0i:i=0
  .subst h0i;have ce0:lh 0 e=[]:=by simp[lh,m6]
   have e1:lh 1 e=bb (tx (ia x.1 x.2)):=by rw[es,ce0];rfl
   rw[ce0]
   show rh (cX SM 2 2 32 (.ref 1 1 0 0 0 0) _ [_,_,ah]) _ _
   refine app0 lt2 (λh=>rfl) (λt e=>by cases e) ?_;rw[<-e1];simp[hre,clean,fA,xY,xX,fC,gY,off1,off2,hpt,kJ,Acc.v,Acc.b];simpa[sk,yf,kJ,Acc.v,Acc.b]using ih
  .have ei:sk e i=kJ.v i (lh i e):=by unfold sk;rw[iN h0i]
   have ei1:sk e (i+1)=kJ.v (i+1) (lh (i+1) e):=by unfold sk;rw[iN aa]
   have bP:∀x y z w:Nat×Bk,([x,y,z]:Hp).set kJ.s w=[x,y,w]:=λx y z w=>rfl
   have ev:∀c,kJ.v (i+1) c=.ref kJ.s (kJ.e+1) 0 (i+1) (i+1) (RW c):=λc=>rfl
   have eb:∀c,kJ.b (i+1) c=(kJ.e+1,.data kJ.n c SM SM):=λc=>rfl
   rw[ei];refine mG kJ (k:=1) aa rfl lce lt2 rfl (λt e=>by cases e) aa au ?_;rw[ei1,es]at ih;unfold yf at ih;rw[es]at ih;simp(disch:=try exact cj)[bP,hre,clean,fA,xY,xX,fC,gY,off1,off2,hpt,ev,eb];refine⟨rfl,?_⟩;simpa[ev,eb]using ih
theorem aiR{p:aw}(he:RW e=4)(hb:∀x∈e,(-128<=x.1∧x.1<=127)∧x.2<256)(hp:RW p<=4)(hl:0<RW p):Ds F.As [ai di p,.agg (nY e)] (aW (m6 (RW p) e)):=by
 apply agc
 have lce:RW (lh (RW p) e)=RW p*2:=by
  unfold lh;rw[jy bb dV,List.length_map];simp[m6];omega
 have hv:sk e (RW p)=kJ.v (RW p) (lh (RW p) e):=by unfold sk;rw[iN aa]
 have ls:RW ((m6 (RW p) e).map tx)=RW p:=by simp[m6];omega
 have hl:=TX (p:=p) he hb hp (aV [((.exit 0),λl3 h=>out (aW (m6 (RW p) e)) (ge l3 0) h)]) (yf e 0) rfl (RW p) 0 aa (by
  have⟨h',q1,_⟩:=oC kJ (L:=RW p) (cells:=lh (RW p) e) (h:=yf e (RW p)) rfl lce;simp only[aV];have es:aW (m6 (RW p) e)=.d (.sl (RW p) (lh (RW p) e)):=by unfold aW de lh;rw[ls]
  rw[es];refine⟨h',?_⟩
  show bW _ (sk e (RW p))=_
  rw[hv];exact q1)
 have hm:∃a b c d:Int×Nat,e=[a,b,c,d]:=by
  match e,he with
  |[a,b,c,d],_=>exact⟨a,b,c,d,rfl⟩
 obtain⟨a,b,c,d,rfl⟩:=hm;have hl0:∀H:Hp,cL 0 [D.str [],D.str []] [] H=Wf ([],H):=λH=>by simp[cL,dF,dY]
 simp[As,nY,hl0];exact hl
theorem KC(a:Int)(b:Nat):∃z:Int,rp 12 (ia a b) z∧z.natAbs<=480:=by
 have r1 : -41<a.tmod 41:=Int.lt_tmod_of_pos a au;have r2:=Int.tmod_lt_of_pos a (b:=41) au;unfold ia;generalize a.tmod 41=z at *
 have key:∀d:Nat,0<d->d∣12->rp 12 (js z (d:Int)) (z*(12/d:Nat))∧(z*(12/d:Nat)).natAbs<=480:=by
  intro d hd hdv;rw[aiU hd];have⟨c,hc⟩:=hdv;have e:12/d=c:=by rw[hc];exact Yd _ hd
  rw[e];have hc12:c<=12:=by rw[hc];exact Nat.le_mul_of_pos_left _ hd
  refine⟨FR hd ?_,?_⟩
  .have:((12:Nat):Int)=(c:Int)*(d:Int):=by rw[<-Int.natCast_mul,Zp,<-hc]
   rw[this,Int.mul_assoc]
  .rw[Zl,Int.natAbs_natCast];exact Zr (by omega:z.natAbs<=40) hc12
 rcases Nu b with h|h|h|h|h|h<;>rw[h]
 .exact⟨_,key 1 au au⟩
 .exact⟨_,key 2 au au⟩
 .exact⟨_,key 3 au au⟩
 .exact⟨_,key 4 au au⟩
 .exact⟨_,key 6 au au⟩
 .exact⟨_,key 12 au au⟩
theorem aps(k:Nat)(e:List (Int×Nat)):ft 12 480 (m6 k e):=by intro x hx;obtain⟨y,_,rfl⟩:=Zw.1 hx;exact KC y.1 y.2
def uU(x:Int->Int)(p:Int):Int:=if p=2 then x p else x p+1
def jz(x:Int->Int):List (Int×Int)->Int×Int->Int×Int
 |[],a=>a
 |t::ts,a=>jz x ts (if t.2<0 then(a.1+uU x t.1*t.2,a.2+x t.1*t.2)else(a.1+x t.1*t.2,a.2+uU x t.1*t.2))
theorem Nf(n:Nat):∀(ts:List (Int×Int))(a:Int×Int),eC n ts a=jz (eu n) ts a
 |[],a=>rfl
 | t::ts,a=>by
  simp[eC,jz,uU,eu];exact Nf n ts _
def DT(p:Int):Int:=((uw p.toNat).getD 0:Nat)
theorem XO{DM:Int}:∀(ts:List (Int×Int))(a r:Int×Int),oZ DM ts a=Wf r->r=jz DT ts a
 | [],a,r,h=>by
  simp[oZ,Z9]at h;exact h.symm
 | t::ts,a,r,h=>by
  simp only[oZ]at h;split at h
  .cases h
  .split at h
   .cases h
   .rename_i f hf;have hx:DT t.1=(f:Int):=by unfold DT;rw[hf];rfl
    have ih:=XO ts _ r h;rw[ih,jz];congr 1;unfold uU;rw[hx];have⟨b,hb⟩:∃b:Int,b=if t.1=2 then(f:Int)else f+1:=⟨_,rfl⟩
    rw[<-hb];have hfb:(f:Int)<=b:=by rw[hb];split<;>omega
    by_cases hn:t.2<0
    .rw[ip hn];have:t.2*b<=t.2*f:=Int.mul_le_mul_of_nonpos_left aa hfb;rw[Int.min_eq_right this,Int.max_eq_left this,Yi b,Yi (f:Int)]
    .rw[iN hn];have:t.2*f<=t.2*b:=Xq hfb aa;rw[Int.min_eq_left this,Int.max_eq_right this,Yi b,Yi (f:Int)]
theorem BD{x:Int->Int}:∀(ts:List (Int×Int))(a:Int×Int),jz x ts a=(a.1+(jz x ts (0,0)).1,a.2+(jz x ts (0,0)).2)
 |[],a=>by simp[jz]
 | t::ts,a=>by
  simp only[jz];split
  .rw[BD ts,BD ts (0+_,0+_)];simp[Xa,V7]
  .rw[BD ts,BD ts (0+_,0+_)];simp[Xa,V7]
theorem XN{x x':Int->Int}{K:Int}(hK:0<=K):∀ts:List (Int×Int),(∀t∈ts,x t.1*K<=x' t.1∧uU x' t.1<=uU x t.1*K)->(jz x ts (0,0)).1*K<=(jz x' ts (0,0)).1∧(jz x' ts (0,0)).2<=(jz x ts (0,0)).2*K
 |[],_=>by simp[jz]
 | t::ts,h=>by
  have⟨h1,h2⟩:=h t ac;have⟨i1,i2⟩:=XN hK ts λu hu=>h u (by simp[hu])
  simp only[jz];rw[BD ts,BD (x:=x') ts];by_cases hn:t.2<0
  .rw[ip hn,ip hn];simp[Xa,Wz];have m1:=Int.mul_le_mul_of_nonpos_right h2 (by omega:t.2<=0);have m2:=Int.mul_le_mul_of_nonpos_right h1 (by omega:t.2<=0);rw[Yr]at m1 m2;constructor<;>omega
  .rw[iN hn,iN hn];simp[Xa,Wz];have m1:=Y0 h1 (by omega:0<=t.2);have m2:=Y0 h2 (by omega:0<=t.2);rw[Yr]at m1 m2;constructor<;>omega
def tV(x:Int->Int)(K:Nat)(p:Int):Bool:=decide (x p*K<=eu 2048 p)&&decide (uU (eu 2048) p<=uU x p*K)
theorem BS:∀p∈px,tV DT (2^2022) p=Th∧tV (eu 64) (2^1984) p=Th∧tV (eu 128) (2^1920) p=Th∧tV (eu 256) (2^1792) p=Th∧tV (eu 512) (2^1536) p=Th∧tV (eu 1024) (2^1024) p=Th:=du
theorem ah6{x:Int->Int}{K:Nat}(h:∀t∈ts,tV x K t.1=Th):(jz x ts (0,0)).1*K<=(jz (eu 2048) ts (0,0)).1∧(jz (eu 2048) ts (0,0)).2<=(jz x ts (0,0)).2*K:=by
 refine XN aa ts λt ht=>?_
 have:=h t ht;simp[tV,Z7,dT]at this;exact this
theorem BO{x:Int->Int}{K:Nat}(h:∀t∈ts,tV x K t.1=Th)(hT:iX (eu 2048) ts≠0):
  (0<=(jz x ts (0,0)).1->(iX (eu 2048) ts).sign=1)∧((jz x ts (0,0)).2<=0->(iX (eu 2048) ts).sign = -1):=by
 have⟨n1,n2⟩:=ah6 h;have⟨g1,g2,_⟩:=Ie 2048 ts;rw[Nf]at g1 g2;refine⟨λh0=>?_,λh0=>?_⟩
 .have:=Int.mul_nonneg h0 (by omega:(0:Int)<=K);exact Int.sign_eq_one_of_pos aa
 .have:=Int.mul_nonneg (a:=-(jz x ts (0,0)).2) (b:=(K:Int)) aa aa;rw[Int.neg_mul]at this;exact Int.sign_eq_neg_one_of_neg aa
theorem anE(hT:iX (eu 2048) ts≠0):
  (0<=(eC 2048 ts (0,0)).1->(iX (eu 2048) ts).sign=1)∧((eC 2048 ts (0,0)).2<=0->(iX (eu 2048) ts).sign = -1):=by have⟨g1,g2,_⟩:=Ie 2048 ts;exact⟨λh0=>Int.sign_eq_one_of_pos aa,λh0=>Int.sign_eq_neg_one_of_neg aa⟩
theorem afB(hm:∀t∈ts,t.1∈px)(hn:(ts.map Prod.fst).Nodup)(h0:∀t∈ts,t.2≠0)(hl:RW ts<=6)(hb:∀t∈ts,t.2.natAbs<9223372036854775808):CH ts=Wf (iX (eu 2048) ts).sign:=by
 cases ts with
 |nil=>rfl
 | cons t l=>
  have⟨ts,hts⟩:∃ts,ts=t::l:=⟨_,rfl⟩;have MT:ts≠[]:=by rw[hts];simp
  rw[<-hts]at hm hn h0 hl hb ⊢;have h1:=Qi (C:=9223372036854775808) ts λt ht=>Nat.le_of_lt (hb t ht)
  have h2:RW ts*9223372036854775808<=6*9223372036854775808:=Zu _ hl;have hb1:oM ts<=73786976294838206464:=aa
  have hT:iX (eu 2048) ts≠0:=by
   intro e;have hz:=TB (n:=2048) aav rfl aau hm hb1 (by rw[e];simp);rw[hts]at hz hm hn h0;have:=hz t.1 (hm t ac);simp only[Zv,Xx]at hn;rw[nK,ip rfl,N7 l hn.1]at this;exact h0 t ac aa
  have dec:=afK (n:=2048) aav rfl aau hm hn h0 hb1 hb1 MT;have⟨f1,f2⟩:=BO (x:=DT) (K:=2^2022) (λt ht=>(BS _ (hm t ht)).1) hT;have e:CH ts=if mb ts≠0 then Wf (mb ts)else tK ts 6 64:=by rw[hts];rfl
  rw[e];by_cases hq:mb ts≠0
  .rw[ip hq];unfold mb at hq ⊢;split at hq
   .exact absurd rfl hq
   .rename_i a ha;have ea:=XO _ _ _ ha;rw[<-ea]at f1 f2;by_cases c1:0<=a.1
    .rw[ip c1,f1 c1]
    .rw[iN c1];rw[iN c1]at hq;by_cases c2:a.2<=0
     .rw[ip c2,f2 c2]
     .rw[iN c2]at hq;exact absurd rfl hq
  .rw[iN hq]
   have step:∀(r n:Nat)(nx:Option Int),(0<=(eC n ts (0,0)).1->(iX (eu 2048) ts).sign=1)->((eC n ts (0,0)).2<=0->(iX (eu 2048) ts).sign = -1)->(tK ts r (n*2)=Wf (iX (eu 2048) ts).sign∨(0<=(eC n ts (0,0)).1∨(eC n ts (0,0)).2<=0))->tK ts (r+1) n=Wf (iX (eu 2048) ts).sign:=by
    intro r n nx a1 a2 a3;unfold tK;by_cases c1:0<=(eC n ts (0,0)).1
    .rw[ip c1,a1 c1]
    .rw[iN c1];by_cases c2:(eC n ts (0,0)).2<=0
     .rw[ip c2,a2 c2]
     .rw[iN c2];rcases a3 with h|h|h
      .exact h
      .exact absurd h c1
      .exact absurd h c2
   have l64:=BO (x:=eu 64) (K:=2^1984) (λt ht=>(BS _ (hm t ht)).2.1) hT;have l128:=BO (x:=eu 128) (K:=2^1920) (λt ht=>(BS _ (hm t ht)).2.2.1) hT;have l256:=BO (x:=eu 256) (K:=2^1792) (λt ht=>(BS _ (hm t ht)).2.2.2.1) hT;have l512:=BO (x:=eu 512) (K:=2^1536) (λt ht=>(BS _ (hm t ht)).2.2.2.2.1) hT
   have l1024:=BO (x:=eu 1024) (K:=2^1024) (λt ht=>(BS _ (hm t ht)).2.2.2.2.2) hT;rw[<-Nf]at l64 l128 l256 l512 l1024;have l2048:=anE hT
   exact step 5 64 Vc l64.1 l64.2 (.inl (step 4 128 Vc l128.1 l128.2 (.inl (step 3 256 Vc l256.1 l256.2 (.inl (step 2 512 Vc l512.1 l512.2 (.inl (step 1 1024 Vc l1024.1 l1024.2 (.inl (step 0 2048 Vc l2048.1 l2048.2 (.inr dec)))))))))))
def mM(b:Nat):List Q->aw->Prop
 |x::s,a::r=>rp b x a∧mM b s r
 |[],[]=>True
 |_,_=>False
def mJ(z:Int):aw->aw->aw
 |a::r,c::t=>(a+z*c)::mJ z r t
 |_,_=>[]
theorem Kz{b:Nat}:∀{s:List Q}{r:aw},mM b s r->RW r=RW s
 |[],[],_=>rfl
 |x::s,a::r,h=>by simp[Kz h.2]
 |[],_::_,h=>h.elim
 |_::_,[],h=>h.elim
theorem KA{b:Nat}(z:Int):∀{o s:List Q}{r t:aw},RW o=RW s->mM b o r->mM b s t->mM b (iV (z,1) o s) (mJ z r t)
 |[],[],[],[],_,_,_=>trivial
 | x::o,y::s,a::r,c::t,hl,h1,h2=>by
  simp[iV,mJ];exact⟨FT h1.1 (Rr z h2.1),KA z (by simpa using hl) h1.2 h2.2⟩
 |[],_::_,_,_,hl,_,_=>by simp at hl
 |_::_,[],_,_,hl,_,_=>by simp at hl
 |[],[],_::_,_,_,h,_=>h.elim
 |[],[],[],_::_,_,_,h=>h.elim
 |_::_,_::_,[],_,_,h,_=>h.elim
 |_::_,_::_,_::_,[],_,_,h=>h.elim
theorem Rn(b:Nat):∀n:Nat,mM b (So n (0,1)) (So n 0)
 |0=>trivial
 | n+1=>by
  rw[List.replicate_succ,List.replicate_succ];exact⟨KB b,Rn b n⟩
theorem Ky{b:Nat}(m:Nat):∀{s:List Q}{r:aw},mM b s r->mM (b*m) s (r.map λa=>a*m)
 |[],[],_=>trivial
 |x::s,a::r,h=>⟨agn m h.1,Ky m h.2⟩
 |[],_::_,h=>h.elim
 |_::_,[],h=>h.elim
theorem Nj(z:Int):∀{r t L:aw},RW r=RW t->b9 (mJ z r t) L=b9 r L+z*b9 t L
 |[],[],L,_=>by simp[mJ,b9]
 |a::r,c::t,[],_=>by simp[mJ,b9]
 | a::r,c::t,l::L,h=>by
  simp[mJ,b9,Nj z (r:=r) (t:=t) (L:=L) (by simpa using h),Wz,V4,Int.mul_assoc];omega
 |[],_::_,_,h=>by simp at h
 |_::_,[],_,h=>by simp at h
theorem XV:∀(n:Nat)(L:aw),b9 (So n 0) L=0
 |0,L=>by simp[b9]
 |n+1,[]=>by simp[List.replicate_succ,b9]
 |n+1,l::L=>by simp[List.replicate_succ,b9,XV n L]
theorem Nk(m:Int):∀(r L:aw),b9 (r.map λa=>a*m) L=b9 r L*m
 |[],L=>by simp[b9]
 |a::r,[]=>by simp[b9]
 | a::r,l::L=>by
  simp only[Zv,b9,Nk m r L,Wz];rw[Yr]
theorem Pj(z:Int):∀{r t:aw},RW r=RW t->RW (mJ z r t)=RW r
 |[],[],_=>rfl
 |a::r,c::t,h=>by simp[mJ,Pj z (r:=r) (t:=t) (by simpa using h)]
 |[],_::_,h=>by simp at h
 |_::_,[],h=>by simp at h
theorem Rp{b B:Nat}:∀{s:List Q}{r:aw},mM b s r->(∀a∈r,a.natAbs<=B)->ft b B s
 |[],[],_,_=>λx hx=>by simp at hx
 | x::s,a::r,h,hb=>by
  have ih:=Rp h.2 λc hc=>hb c (by simp[hc])
  intro y hy;simp[Zx]at hy;rcases hy with rfl|hy
  .exact⟨a,h.1,hb a ac⟩
  .exact ih y hy
 |[],_::_,h,_=>h.elim
 |_::_,[],h,_=>h.elim
theorem aaO{b B:Nat}:∀{s:List Q},ft b B s->∃r,mM b s r∧∀a∈r,a.natAbs<=B
 |[],_=>⟨[],trivial,λa h=>by simp at h⟩
 | x::s,h=>by
  have⟨a,h1,h2⟩:=h x ac;have⟨r,h3,h4⟩:=aaO (s:=s) λy hy=>h y (by simp[hy])
  refine⟨a::r,⟨h1,h3⟩,λc hc=>?_⟩;simp[Zx]at hc;rcases hc with rfl|hc
  .exact h2
  .exact h4 c hc
theorem Pw{b d:Nat}(h:Int->Int)(hb:0<b)(hd:d∣b):∀{p:aw}{s:List Q}{r:aw},RW s=RW p->mM b s r->(∀x∈s,x.2∣d)->iX h (gz d p s)*((b/d:Nat):Int)=b9 r (p.map h)
 |[],[],[],_,_,_=>by simp[gz,iX,b9]
 | c::p,x::s,a::r,hl,hr,hv=>by
  have ih:=Pw h hb hd (p:=p) (s:=s) (r:=r) (by simpa using hl) hr.2 λy hy=>hv y (by simp[hy])
  have hx:=hv x ac;have p1:=hr.1.1.1;have d0:0<d:=Nat.pos_of_dvd_of_pos hd hb
  have key:x.1*((d/x.2:Nat):Int)*((b/d:Nat):Int)=a:=by
   have⟨u,hu⟩:=hx;have⟨v,hv'⟩:=hd;have e1:d/x.2=u:=by rw[hu];exact Yd _ p1
   have e2:b/d=v:=by rw[hv'];exact Yd _ d0
   rw[e1,e2];have h2:=hr.1.2;rw[hv',hu,Int.natCast_mul,Int.natCast_mul]at h2;refine Int.eq_of_mul_eq_mul_right (a:=(x.2:Int)) aa ?_;rw[<-h2];simp[Yi,Int.mul_left_comm,Int.mul_assoc]
  simp only[gz];split
  .rename_i h0;rw[h0]at key;simp[Int.zero_mul]at key;rw[ih,Zv,b9,<-key];simp
  .rw[iX,Wz,ih,Zv,b9];simp only;rw[Yr,key]
 |[],_::_,_,hl,_,_=>by simp at hl
 |_::_,[],_,hl,_,_=>by simp at hl
 |[],[],_::_,_,h,_=>h.elim
 |_::_,_::_,[],_,h,_=>h.elim
theorem QV{k:Int}(hk:0<k):(z*k).sign=z.sign:=by rw[Int.sign_mul,Int.sign_eq_one_of_pos hk,Int.mul_one]
def L5(p:aw):aw:=p.map (eu 2048)
theorem Q2{p:aw}{b B:Nat}(hp:yG p)(hl:RW s=RW p)(hb:0<b)(hr:mM b s r)(hB:∀a∈r,a.natAbs<=B)(hB2:B<9223372036854775808):Aj p s ((b9 r (L5 p)).sign):=by
 have bd:=Rp hr hB;have h1:=adb hp hb bd hB2;have hd:∀x∈s,0<x.2:=λx hx=>(apr hb bd x hx).1
 have hll:RW (tq p s)<=6:=by
  have:=JG (d:=ky 1 s) p s;have:=hp.2.1;unfold tq;omega
 have dv:∀x∈s,x.2∣ky 1 s:=λx hx=>(Nt (s:=s) (d:=1)).2 x hx
 have d0:0<ky 1 s:=Ns au hd;have dd:=aaR bd;have hs:=afB (Jw hp) (PS hp.1) (PT d0 λx hx=>⟨hd x hx,dv x hx⟩) hll λt ht=>(h1.2 t ht).2.2
 refine⟨ahT h1,aoR (Jw hp),?_⟩;rw[hs];have:=Pw (eu 2048) hb dd hl hr dv;unfold L5;rw[<-this,QV]
 .rfl
 .have:=V6 (Xk hb dd) d0;omega
theorem amQ{p:aw}{a b:List Q}{m B:Nat}(hp:yG p)(la:RW a=RW p)(lb:RW b=RW p)(n0:0<n)(m0:0<m)(ha:mM n a r)(hb:mM m b t)(hA:∀x∈r,x.natAbs<=A)(hB:∀x∈t,x.natAbs<=B)(hC:A*m+B*n<9223372036854775808):
  Aj p (kx p a b) ((b9 r (L5 p)*m-b9 t (L5 p)*n).sign):=by
 have lr:=Kz ha;have lt:=Kz hb;have r1:=Ky m ha;have r2:=Ky n hb;rw[Zp m n]at r2;have z:=Rn (n*m) (RW p);have s1:=KA 1 (by simp[la]) z r1;have s2:=KA (-1) (by rw[zg _ _ _ (by simp[la]),la,lb]) s1 r2;have e:iV (-1,1) (iV (1,1) (So (RW p) (0,1)) a) b=kx p a b:=by simp[kx,gC,m8]
 rw[e]at s2;have h1:RW (mJ 1 (So (RW p) 0) (r.map λa=>a*(m:Int)))=RW p:=by rw[Pj _ (by simp[lr,la])];simp
 have hd:b9 (mJ (-1) (mJ 1 (So (RW p) 0) (r.map λa=>a*(m:Int))) (t.map λa=>a*(n:Int))) (L5 p)=b9 r (L5 p)*m-b9 t (L5 p)*n:=by
  rw[Nj _ (by rw[h1];simp[lt,lb]),Nj _ (by simp[lr,la]),XV,Nk,Nk];omega
 have ld:RW (kx p a b)=RW p:=by rw[<-e,zg _ _ _ (by rw[zg _ _ _ (by simp[la]),la,lb]),lb]
 rw[<-hd];refine Q2 hp ld (Yk n0 m0) s2 (B:=A*m+B*n) ?_ hC
 have vb:∀(z:Int)(X Y:Nat)(u v:aw),(∀x∈u,x.natAbs<=X)->(∀x∈v,x.natAbs<=Y)->∀x∈mJ z u v,x.natAbs<=X+z.natAbs*Y:=by
  intro z X Y u
  induction u with
  |nil=>intro v _ _ x hx;simp[mJ]at hx
  | cons a u ih=>
   intro v h1 h2 x hx;cases v with
   |nil=>simp[mJ]at hx
   | cons c v=>
    simp[mJ,Zx]at hx;rcases hx with rfl|hx
    .have q1:=h1 a ac;have q2:=h2 c ac;have q3:=Xz a (z*c);rw[Zl]at q3;have q4:=Z4 z.natAbs q2;omega
    .exact ih v (λy hy=>h1 y (by simp[hy])) (λy hy=>h2 y (by simp[hy])) x hx
 have q1:∀x∈r.map (λa=>a*(m:Int)),x.natAbs<=A*m:=λx hx=>by
  obtain⟨y,hy,rfl⟩:=Zw.1 hx;rw[Zl,Int.natAbs_natCast];exact Zu _ (hA y hy)
 have q2:∀x∈t.map (λa=>a*(n:Int)),x.natAbs<=B*n:=λx hx=>by
  obtain⟨y,hy,rfl⟩:=Zw.1 hx;rw[Zl,Int.natAbs_natCast];exact Zu _ (hB y hy)
 have q3:=vb 1 0 (A*m) (So (RW p) 0) _ (λx hx=>by rw[Ww]at hx;rw[hx.2];simp) q1;have q4:=vb (-1) _ (B*n) _ _ q3 q2;intro x hx;have:=q4 x hx;simpa using this
def Da(b:Nat)(s:List Q):aw:=s.map λx=>x.1*((b/x.2:Nat):Int)
theorem Ro{b:Nat}:∀{s:List Q}{r:aw},mM b s r->r=Da b s
 |[],[],_=>rfl
 | x::s,a::r,h=>by
  have ih:=Ro h.2;have⟨⟨hx,e⟩,_⟩:=h;have⟨u,hu⟩:=FS ⟨hx,e⟩;have p1:=hx.1;have e1:b/x.2=u:=by rw[hu];exact Yd _ p1
  have:a=x.1*(u:Int):=by
   refine Int.eq_of_mul_eq_mul_right (a:=(x.2:Int)) aa ?_;rw[<-e,hu,Int.natCast_mul,Int.mul_assoc,Yi (x.2:Int)]
  simp only[Da,Zv];rw[e1,this,ih];rfl
 |[],_::_,h=>h.elim
 |_::_,[],h=>h.elim
theorem Lj{b B:Nat}(h:ft b B s):mM b s (Da b s)∧∀a∈Da b s,a.natAbs<=B:=by have⟨r,h1,h2⟩:=aaO h;have e:=Ro h1;subst e;exact⟨h1,h2⟩
def xd(p:aw)(n:Nat)(s:List Q):Int:=b9 (Da n s) (L5 p)
theorem aoj{p:aw}{a b:List Q}{m B:Nat}(hp:yG p)(la:RW a=RW p)(lb:RW b=RW p)(n0:0<n)(m0:0<m)(ha:ft n A a)(hb:ft m B b)(hC:A*m+B*n<9223372036854775808):
  Aj p (kx p a b) ((xd p n a*m-xd p m b*n).sign):=by have⟨h1,h2⟩:=Lj ha;have⟨h3,h4⟩:=Lj hb;exact amQ hp la lb n0 m0 h1 h3 h2 h4 hC
abbrev Lk:=Int×Int
structure Ad where
 p:aw
 ch:List cM
 lk:List (List Lk)
 cd:List cM
 w:Q
variable{a:Ad}
variable{b:Nat}{c:UInt8}{kb:Nat}
theorem Ub(z:Int):js z 1=(z,1):=by simp[js,fD]
variable{p:aw}{c w:Mz}
end Go.Vm
