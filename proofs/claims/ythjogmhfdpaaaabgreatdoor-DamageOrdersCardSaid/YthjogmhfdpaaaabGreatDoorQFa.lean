/- Lemmas. -/
import Derived.Test.YthjogmhfdpaaaabGreatDoorQLaJ
set_option linter.unusedVariables false
set_option linter.unusedSimpArgs false
open Option renaming some->Wf,none->Vc
open Bool renaming true->Th,false->SM
open Go renaming IntKind->iK
open List renaming replicate->So,length->RW
namespace Go.Vm
open Go Go.Am Go.Big
variable{x d n k E G i Bd j A:Nat}{ts:List (Int×Int)}{DM z c':Int}{s f:List Q}{L r P y t:aw}{m:Mz}{e:List (Int×Nat)}
abbrev UN(n:Nat):V:=.d (.int .u64 (n:Int))
theorem OQ{a:Nat}(h:a<18446744073709551616):aD .and (UN a) (UN 4294967295)=Wf (UN (a%4294967296)):=by
 have ea:(BitVec.ofInt 64 (a:Int)).toNat=a:=by simp[BitVec.toNat_ofInt];omega
 have eb:(BitVec.ofInt 64 ((4294967295:Nat):Int)).toNat=4294967295:=by rfl
 have hm:a&&&4294967295=a%4294967296:=Nat.and_two_pow_sub_one_eq_mod a 32;have e:(BitVec.ofInt 64 (a:Int)&&&BitVec.ofInt 64 ((4294967295:Nat):Int)).toNat=a%4294967296:=by rw[BitVec.toNat_and,ea,eb,hm]
 show jt (Wf (Value.int .u64 (iK.wrap .u64 ((BitVec.ofInt 64 (a:Int)&&&BitVec.ofInt 64 ((4294967295:Nat):Int)).toNat:Int))))=_
 rw[e,wrap_u64 aa];rfl
theorem ah4{a b:Nat}(ha:a<18446744073709551616)(hb:b<18446744073709551616):aD .or (UN a) (UN b)=Wf (UN (a|||b)):=by
 have h:a|||b<2^64:=Nat.or_lt_two_pow (n:=64) ha hb;have ea:(BitVec.ofInt 64 (a:Int)).toNat=a:=by simp[BitVec.toNat_ofInt];omega
 have eb:(BitVec.ofInt 64 (b:Int)).toNat=b:=by simp[BitVec.toNat_ofInt];omega
 have e:(BitVec.ofInt 64 (a:Int)|||BitVec.ofInt 64 (b:Int)).toNat=a|||b:=by rw[BitVec.toNat_or,ea,eb]
 show jt (Wf (Value.int .u64 (iK.wrap .u64 ((BitVec.ofInt 64 (a:Int)|||BitVec.ofInt 64 (b:Int)).toNat:Int))))=_
 rw[e,wrap_u64 aa];rfl
theorem CV(a:Nat):aD .shr (UN a) (UN 32)=Wf (UN (a/4294967296)):=by
 have:=FL (k:=.u64) (l:=.u64) (a:=a) (b:=32) am
 rwa [show(2:Nat)^32=4294967296 from rfl]at this
theorem aiM(a b:Nat):aD .mul (UN a) (UN b)=Wf (UN (a*b%18446744073709551616)):=by
 have:iK.wrap .u64 ((a:Int)*b)=((a*b%18446744073709551616:Nat):Int):=by
  rw[<-Int.natCast_mul];unfold iK.wrap;simp[iK.bits,iK.signed]
 rw[zq,this]
theorem aiQ(x0 x1 y0 y1 B:Nat)(hB:0<B):(x1*B+x0)*(y1*B+y0)/(B*B)=x1*y1+(x1*y0+x0*y0/B)/B+((x1*y0+x0*y0/B)%B+x0*y1)/B:=by
 have e:(x1*B+x0)*(y1*B+y0)=x0*y0+B*(x1*y0+x0*y1+B*(x1*y1)):=by
  simp only[Nat.add_mul,Zm];have e1:x1*B*(y1*B)=B*(B*(x1*y1)):=by simp only[Zq,Y3]
  have e2:x1*B*y0=B*(x1*y0):=by simp only[Zq,Y3]
  have e3:x0*(y1*B)=B*(x0*y1):=by simp only[Zq,Y3]
  rw[e1,e2,e3];omega
 rw[e,<-Xm,X9 _ _ hB];generalize x0*y0/B=c;have e2:c+(x1*y0+x0*y1+B*(x1*y1))=(x1*y0+c+x0*y1)+B*(x1*y1):=aa;rw[e2,X9 _ _ hB];generalize x1*y0+c=t;have e3:t+x0*y1=(t%B+x0*y1)+B*(t/B):=by have:=Xp t B;omega
 rw[e3,X9 _ _ hB];omega
theorem aiR{a b:Nat}(ha:a<18446744073709551616)(hb:b<18446744073709551616):Ds F.qU [UN a,UN b] (.tup [UN (a*b/18446744073709551616),UN (a*b%18446744073709551616)]):=by
 apply Ug;have⟨x0,hx0⟩:=bD (a%4294967296);have⟨x1,hx1⟩:=bD (a/4294967296);have⟨y0,hy0⟩:=bD (b%4294967296);have⟨y1,hy1⟩:=bD (b/4294967296);have bx0:x0<=4294967295:=aa;have bx1:x1<=4294967295:=aa;have by0:y0<=4294967295:=aa;have by1:y1<=4294967295:=aa
 have m00:x0*y0<=4294967295*4294967295:=Zr bx0 by0;have m10:x1*y0<=4294967295*4294967295:=Zr bx1 by0;have m01:x0*y1<=4294967295*4294967295:=Zr bx0 by1;have m11:x1*y1<=4294967295*4294967295:=Zr bx1 by1;have e:=aiQ x0 x1 y0 y1 4294967296 am;rw[show x1*4294967296+x0=a by omega,show y1*4294967296+y0=b by omega]at e
 have hab:a*b/(4294967296*4294967296)<=18446744073709551615:=by
  have:a*b<=18446744073709551615*18446744073709551615:=Zr aa aa;omega
 have q1:=G1 (a:=x0) (b:=y0) aa;have q2:=G1 (a:=x1) (b:=y0) aa;have q3:=Ce (a:=x1*y0) (b:=x0*y0/4294967296) aa;have q4:=OQ (a:=x1*y0+x0*y0/4294967296) aa;have q5:=G1 (a:=x0) (b:=y1) aa;have q6:=Ce (a:=(x1*y0+x0*y0/4294967296)%4294967296) (b:=x0*y1) aa;have q7:=G1 (a:=x1) (b:=y1) aa
 have q8:=Ce (a:=x1*y1) (b:=(x1*y0+x0*y0/4294967296)/4294967296) aa;have q9:=Ce (a:=x1*y1+(x1*y0+x0*y0/4294967296)/4294967296) (b:=((x1*y0+x0*y0/4294967296)%4294967296+x0*y1)/4294967296) aa;have r1:=OQ ha;have r2:=OQ hb;have r3:=CV a;have r4:=CV b;rw[<-hx0]at r1;rw[<-hy0]at r2;rw[<-hx1]at r3;rw[<-hy1]at r4
 have r1':aD .and (UN a) (.d (.int .u64 4294967295))=Wf (UN x0):=r1;have r2':aD .and (UN b) (.d (.int .u64 4294967295))=Wf (UN y0):=r2;have r3':aD .shr (UN a) (.d (.int .u64 32))=Wf (UN x1):=r3;have r4':aD .shr (UN b) (.d (.int .u64 32))=Wf (UN y1):=r4;have s1:aD .shr (UN (x0*y0)) (.d (.int .u64 32))=Wf (UN (x0*y0/4294967296)):=CV _
 have q4':aD .and (UN (x1*y0+x0*y0/4294967296)) (.d (.int .u64 4294967295))=Wf (UN ((x1*y0+x0*y0/4294967296)%4294967296)):=q4;have s2:aD .shr (UN (x1*y0+x0*y0/4294967296)) (.d (.int .u64 32))=Wf (UN ((x1*y0+x0*y0/4294967296)/4294967296)):=CV _
 have s3:aD .shr (UN ((x1*y0+x0*y0/4294967296)%4294967296+x0*y1)) (.d (.int .u64 32))=Wf (UN (((x1*y0+x0*y0/4294967296)%4294967296+x0*y1)/4294967296)):=CV _;have mw:=aiM a b;simp only[qU,r1',r2',r3',r4',B9,q1,q2,s1,q3,q4',s2,q5,q6,q7,q8,s3,q9,mw];rw[<-e];exact fR rfl rfl
theorem aoH(A B:Prop):aQ (.d (.bool Th)) A B=A:=rfl
theorem aap(A B:Prop):aQ (.d (.bool SM)) A B=B:=rfl
def j9:Nat:=4611686018427387904
def jg:Nat:=9223372036854775808
def uD:Nat->Nat->Nat->Nat->Option Nat
 |0,_,_,out=>Wf out
 | r+1,low,high,out=>
  cond (Nat.ble jg (low*low/j9)) (uD r (low*low/j9/2) ((high*high/j9+1)/2+1) (out*2+1))
   (cond (Nat.ble jg (high*high/j9+1)) Vc (uD r (low*low/j9) (high*high/j9+1) (out*2)))
def uE(p:Nat):Option Nat:=uD 26 (p*2^(62-(cQ p-1))) (p*2^(62-(cQ p-1))) (cQ p-1)
def D6:Option Nat->V
 |some a=>.tup [I a,B Th]
 |none=>.tup [I 0,B SM]
theorem J6(h:x<jg):x*x/j9<=18446744073709551612:=by have:x*x<=(jg-1)*(jg-1):=Zr aa aa;exact Z1 (Nat.div_le_div_right this) am
theorem aei(h:x<jg):x*x/18446744073709551616*4|||x*x%18446744073709551616/j9=x*x/j9:=by
 have h1:x*x%18446744073709551616/j9<2^2:=by unfold j9;omega
 have:=Nat.two_pow_add_eq_or_of_lt h1 (x*x/18446744073709551616);rw[show(2:Nat)^2=4 from rfl,Zq]at this;rw[<-this];unfold j9;omega
theorem XQ(h:x<jg):∃a b:Nat,Ds F.qU [UN x,UN x] (.tup [UN a,UN b])∧aD .shl (UN a) (.d (.int .u64 2))=Wf (UN (a*4))∧aD .shr (UN b) (.d (.int .u64 62))=Wf (UN (b/j9))∧aD .or (UN (a*4)) (UN (b/j9))=Wf (UN (x*x/j9)):=by
 have hx:x<18446744073709551616:=by unfold jg at h;omega
 have Fm:=J6 h;have ha:x*x/18446744073709551616*4<18446744073709551616:=by unfold j9 at Fm;omega
 refine⟨x*x/18446744073709551616,x*x%18446744073709551616,aiR hx hx,?_,?_,?_⟩
 .rw[aaT aa am]
  have:iK.wrap .u64 (((x*x/18446744073709551616:Nat):Int)*2^(2:Int).toNat)=((x*x/18446744073709551616*4:Nat):Int):=by
   rw[show(2:Int)^(2:Int).toNat=4 from rfl,show((x*x/18446744073709551616:Nat):Int)*4=((x*x/18446744073709551616*4:Nat):Int) by rw[Int.natCast_mul];rfl];exact wrap_u64 ⟨aa,aa⟩
  rw[this]
 .exact FL (k:=.u64) (l:=.u64) (a:=x*x%18446744073709551616) (b:=62) am
 .rw[ah4 ha (by unfold j9;omega),aei h]
theorem Nj(k:KL):∀(r low high out:Nat),r<=26->low<jg->high<jg->out<2^(31-r) ->
  (∀a,uD r low high out=Wf a->k (.exit 0) [I a] [])->(uD r low high out=Vc->k .ret [I 0,B SM] []) ->
  lp (FG DA) [] [] [UN low,UN high,I out,I ((26-r:Nat):Int)] [] k
 | 0,low,high,out,hr,hl,hh,ho,h0,h1=>by
  apply aL;simp[FG];exact h0 out rfl
 | r+1,low,high,out,hr,hl,hh,ho,h0,h1=>by
  have g1:((26-(r+1):Nat):Int)<26:=aa;have⟨a,b,m1,m2,m3,m4⟩:=XQ hl;have⟨a',b',n1,n2,n3,n4⟩:=XQ hh;have l1:=J6 hl;have l2:=J6 hh;have ho2:out<2147483648:=Z0 ho (Z2 am (by omega:31-(r+1)<=31));have hpow:2^(31-r)=2^(31-(r+1))*2:=by rw[<-Nat.pow_succ];congr 1;omega
  have hc:((26-(r+1):Nat):Int)+1=((26-r:Nat):Int):=aa;simp only[uD]at h0 h1;have⟨L,hL⟩:=bD (low*low/j9);have⟨M,hM⟩:=bD (high*high/j9);rw[<-hL]at h0 h1 l1 m4;rw[<-hM]at h0 h1 l2 n4;have p1:=Ce (a:=M) (b:=1) aa;have p1':aD .add (UN M) (.d (.int .u64 1))=Wf (UN (M+1)):=p1;apply aL
  have b1:Nat.ble jg L=decide ((9223372036854775808:Int)<=(L:Int)):=by
   rw[Yh,dT];refine⟨λh=>?_,λh=>Nat.ble_eq_true_of_le (by unfold jg;omega)⟩;have:=Nat.le_of_ble_eq_true h;unfold jg at this;omega
  have b2:Nat.ble jg (M+1)=decide ((9223372036854775808:Int)<=((M+1:Nat):Int)):=by
   rw[Yh,dT];refine⟨λh=>?_,λh=>Nat.ble_eq_true_of_le (by unfold jg;omega)⟩;have:=Nat.le_of_ble_eq_true h;unfold jg at this;omega
  have s1:aD .shr (UN L) (.d (.int .u64 1))=Wf (UN (L/2)):=FL (k:=.u64) (l:=.u64) (a:=L) (b:=1) am;have s2:aD .shr (UN (M+1)) (.d (.int .u64 1))=Wf (UN ((M+1)/2)):=FL (k:=.u64) (l:=.u64) (a:=M+1) (b:=1) am;have p2:=Ce (a:=(M+1)/2) (b:=1) aa;have p2':aD .add (UN ((M+1)/2)) (.d (.int .u64 1))=Wf (UN ((M+1)/2+1)):=p2;rw[b1,b2]at h0 h1
  have⟨N1,hN1⟩:=bD (M+1);rw[<-hN1]at h0 h1 p1' s2 p2';have⟨HL,hHL⟩:=bD (L/2);have⟨HM,hHM⟩:=bD (N1/2+1);rw[<-hHL]at h0 h1 s1;rw[<-hHM]at h0 h1 p2';simp(disch:=omega) [FG,g1];apply cg;simp;refine cd m1 ?_;simp[m2,m3,m4];refine cd n1 ?_;simp(disch:=try exact cC)[n2,n3,n4,p1']
  by_cases c1:(9223372036854775808:Int)<=(L:Int)
  .have ih:=Nj k r HL HM (out*2+1) aa (by unfold jg;omega) (by unfold jg;omega) aa;rw[decide_eq_true c1]at h0 h1;have:=ih h0 h1;rw[decide_eq_true c1];apply cg;refine Eq.mpr (aoH _ _) ?_;simp(disch:=omega) [s1,s2,p2',hc];have e25:((25-r:Nat):Int)+1=((26-r:Nat):Int):=aa;rw[e25];rw[show((out*2+1:Nat):Int)=(out:Int)*2+1 by omega]at this
   exact this
  .rw[decide_eq_false c1]at h0 h1;by_cases c2:(9223372036854775808:Int)<=(N1:Int)
   .rw[decide_eq_true c2]at h0 h1;rw[decide_eq_false c1];apply cg;refine Eq.mpr (aap _ _) ?_;simp[c2];exact h1 rfl
   .have ih:=Nj k r L N1 (out*2) aa (by unfold jg;omega) (by unfold jg;omega) aa;rw[decide_eq_false c2]at h0 h1;have:=ih h0 h1;rw[decide_eq_false c1];apply cg;refine Eq.mpr (aap _ _) ?_;simp(disch:=omega) [c2,hc];have e25:((25-r:Nat):Int)+1=((26-r:Nat):Int):=aa;rw[e25];rw[show((out*2:Nat):Int)=(out:Int)*2 by omega]at this;exact this
theorem fast_ok{p:Nat}(hp:2<=p)(hp2:p<1000000):Ds F.Aq [I p] (D6 (uE p)):=by
 apply afF;have⟨hk0,hpk,hk1⟩:=GZ (n:=p) aa
 have hk20:cQ p<=20:=by
  have:2^(cQ p-1)<2^20:=aa;have:=(Yt (by decide:1<2)).1 this;omega
 have c1:ft .u64 (I p)=Wf (UN p):=aol aa;have lb:=U5 (n:=p) aa
 have hb:p*2^(62-(cQ p-1))<jg:=by
  have h1:p<2^cQ p:=aa;have h2:p*2^(62-(cQ p-1))<2^cQ p*2^(62-(cQ p-1)):=Nat.mul_lt_mul_of_pos_right h1 (Xr am);rw[<-Yr,show cQ p+(62-(cQ p-1))=63 by omega]at h2;exact h2
 have sl:aD .shl (UN p) (I ((62:Int)-((cQ p:Int)-1)))=Wf (UN (p*2^(62-(cQ p-1)))):=by
  rw[aaT aa (by show _<=64;omega)];have e1:((62:Int)-((cQ p:Int)-1)).toNat=62-(cQ p-1):=aa;rw[e1];have e2:(p:Int)*2^(62-(cQ p-1))=((p*2^(62-(cQ p-1)):Nat):Int):=by rw[Int.natCast_mul,Int.natCast_pow];rfl
  rw[e2,wrap_u64 ⟨aa,by unfold jg at hb;omega⟩]
 have g:=Nj (aU [((.exit 0),λl7 h=>out (D6 (uE p)) (.tup [(ge l7 0),(.d (.bool Th))]) h),(.ret,λl7 h=>out (D6 (uE p)) (.tup [(ge l7 0),(ge l7 1)]) h)]) 26 (p*2^(62-(cQ p-1))) (p*2^(62-(cQ p-1))) (cQ p-1) am hb hb (by show _<2^5;omega) (λa ha=>by
   have:uE p=Wf a:=ha;rw[this];simp;exact fR rfl rfl) (λha=>by
   have:uE p=Vc:=ha;rw[this];simp;exact fR rfl rfl)
 have hk:((cQ p-1:Nat):Int)=(cQ p:Int)-1:=aa;rw[hk]at g;simp[Aq,c1];refine cd lb ?_;generalize p*2^(62-(cQ p-1))=P at *;simp(disch:=omega) [sl];exact g
theorem Nk:∀(r low high out a:Nat),uD r low high out=Wf a->a<(out+1)*2^r
 |0,low,high,out,a,h=>by grind[uD]
 | r+1,low,high,out,a,h=>by
  have e:∀x:Nat,(x+1)*2^(r+1)=(2*x+2)*2^r:=λx=>by grind
  rw[e];simp only[uD]at h;cases c1:Nat.ble jg (low*low/j9)with
  | true=>
   rw[c1]at h;have:=Nk r _ _ _ a h
   rwa [show out*2+1+1=2*out+2 by omega]at this
  | false=>
   rw[c1]at h;cases c2:Nat.ble jg (high*high/j9+1)with
   |true=>grind
   | false=>
    rw[c2]at h;have:=Nk r _ _ _ a h;exact Z0 this (Zu _ aa)
theorem amu{p a:Nat}(hp:2<=p)(hp2:p<1000000)(h:uE p=Wf a):a<1342177280:=by
 have⟨hk0,hpk,hk1⟩:=GZ (n:=p) aa
 have hk20:cQ p<=20:=by
  have:2^(cQ p-1)<2^20:=aa;have:=(Yt (by decide:1<2)).1 this;omega
 have:=Nk _ _ _ _ _ h;have h2:(cQ p-1+1)*2^26<=20*2^26:=Zu _ aa;omega
theorem aiL(x y:Int):jQ SM x y=min x y:=by grind[jQ]
theorem LS(x y:Int):jQ Th x y=max x y:=by grind[jQ]
def pj(DM:Int):List (Int×Int)->Int×Int->Option (Int×Int)
 |[],a=>Wf a
 | t::ts,a=>if DM<t.2∨t.2 < -DM then Vc else match uE t.1.toNat with
  |none=>Vc
  | some f=>
   let b:Int:=if t.1=2 then f else f+1
   pj DM ts (a.1+min (t.2*f) (t.2*b),a.2+max (t.2*f) (t.2*b))
def wm:Option (Int×Int)->V
 |some a=>.tup [I a.1,I a.2,B Th]
 |none=>.tup [I 0,I 0,B SM]
def jK(ts:List (Int×Int))(d:Nat)(n lo hi:Int)(b:Bool):Hp:=[(1,.vars ((iw ts d).map .d)),(1,.vars [I n]),(1,.vars [I lo]),(1,.vars [I hi]),(1,.vars [B b])]
theorem P0{d:Nat}{DM:Int}(hm0:0<=DM)(hm:DM<=10000000){tt:List (Int×Int)}(k:Exit->Hp->Prop)(h0:Hp)(hh:RW h0=5):∀(ts:List (Int×Int))(lo hi B:Int),(∀t∈ts,2<=t.1∧t.1<1000000∧t.2.natAbs<9223372036854775808)->B+RW ts*13421772810000000<=9000000000000000000->-B<=lo->lo<=B->-B<=hi->hi<=B ->
  (∀a,pj DM ts (lo,hi)=Wf a->k .normal (jK tt d DM a.1 a.2 SM))->(pj DM ts (lo,hi)=Vc->k .ret (jK tt d DM 0 0 SM)) ->
  rg 2 (vw DA (.ptr 1 1 0 1) (.ptr 2 1 0 1) (.ptr 3 1 0 1) (.ptr 4 1 0 1)) [] h0 k (qE ts) (jK tt d DM lo hi SM)
 | [],lo,hi,Bd,hl,hb,h1,h2,h3,h4,hk,hn=>by
  simpa[qE,rg]using hk (lo,hi) rfl
 | t::ts,lo,hi,Bd,hl,hb,h1,h2,h3,h4,hk,hn=>by
  have⟨l1,l2,l3⟩:=hl t ac;have sm:=Kd (z:=t.2) l3;have⟨p,hp⟩:∃p:Nat,t.1=p:=⟨t.1.toNat,aa⟩;have hpn:t.1.toNat=p:=aa;have fa:=fast_ok (p:=p) aa aa;rw[<-hp]at fa;have eL:([.int .i64 t.1,.string ⟨⟨itoa t.2⟩⟩]:au).map (λv=>V.d (dL v))=[I t.1,S (itoa t.2)]:=rfl;simp only[pj,hpn]at hk hn
  have Rg:∀x:Hp,RW x=5->dl [] 0 h0 x=x:=λx hx=>x8 0 h0 x aa
  simp only[qE,Zv];refine Sl rfl ?_;rw[eL];by_cases c1:DM<t.2
  .rw[ip (.inl c1)]at hn;simp[vw,jK,iw];refine cd sm ?_ aM
   simp_all[jK,iw]
  .by_cases c2:t.2 < -DM
   .rw[ip (.inr c2)]at hn;simp[vw,jK,iw];refine cd sm ?_ aM;simp(disch:=try exact cC)[c1,c2]
    grind[jK,iw]
   .rw[iN aa]at hn;simp only[show ¬(DM<t.2∨t.2 < -DM) by omega,iF]at hk;cases hf:uE p with
    | none=>
     rw[hf]at fa hn;simp[vw,jK,iw];refine cd sm ?_ aM;simp(disch:=try exact cC)[c1,c2];refine cd fa ?_
     simp_all[D6,jK,iw]
    | some f=>
     have hflt:=amu aa aa hf;rw[hf]at fa hk hn;simp only at hk hn;have⟨b,hb'⟩:∃b:Int,b=(if t.1=2 then(f:Int)else f+1):=⟨_,rfl⟩;rw[<-hb']at hk hn;have hbb:(f:Int)<=b∧b<=f+1:=by subst hb';split<;>omega
     have⟨x,hx⟩:∃x:Int,x=t.2*f:=⟨_,rfl⟩;have⟨y,hy⟩:∃y:Int,y=t.2*b:=⟨_,rfl⟩
     have bd:∀z:Int,0<=z->z<=1342177281->-13421772810000000<=t.2*z∧t.2*z<=13421772810000000:=by
      intro z hz0 hz;have a1:t.2*z<=10000000*z:=Y0 aa hz0;have a2:(-10000000)*z<=t.2*z:=Y0 aa hz0;omega
     have bx:=bd f aa aa;have Nd:=bd b aa aa;rw[<-hx]at bx hk hn;rw[<-hy]at Nd hk hn;have ih:=P0 (tt:=tt) (d:=d) hm0 hm k h0 hh ts (lo+min x y) (hi+max x y) (Bd+13421772810000000) (λt ht=>hl t ae) ae aa aa aa aa hk hn;simp at hb
     have m1:aD .mul (I t.2) (I (f:Int))=Wf (I x):=by rw[zq,<-hx,wrap_i64 ⟨aa,aa⟩]
     have m2:aD .mul (I t.2) (I b)=Wf (I y):=by rw[zq,<-hy,wrap_i64 ⟨aa,aa⟩]
     have tail:∀q:Exit->Hp->Prop,q .normal (jK tt d DM (lo+min x y) (hi+max x y) SM)->jn (λl26 h=>
       bnd (ld1 h (.ptr 2 1 0 1)) λv28=>
       bnd (aD .mul (I t.2) (I (f:Int))) λv29=>
       bnd (aD .mul (I t.2) (ge l26 0)) λv30=>
       bnd (gk SM [v29,v30]) λv31=>
       bnd (aD .add v28 v31) λv32=>
       bnd (ld1 h (.ptr 3 1 0 1)) λv33=>
       bnd (aD .mul (I t.2) (I (f:Int))) λv34=>
       bnd (aD .mul (I t.2) (ge l26 0)) λv35=>
       bnd (gk Th [v34,v35]) λv36=>
       bnd (aD .add v33 v36) λv37=>
       sp h (.ptr 2 1 0 1) [.ptr 3 1 0 1]<|aS h 1 (.ptr 2 1 0 1) v32 λ_ h=>
       aS h 1 (.ptr 3 1 0 1) v37 λ_ h=>
       q .normal h) λq27=>q27 [I b] (jK tt d DM lo hi SM):=by
      intro q hq;rw[DK (l:=[I b]) (h:=jK tt d DM lo hi SM) (λq=>rfl)];have x1:gk SM [I x,I y]=Wf (I (min x y)):=by simp only[gk,aiL]
      have x2:gk Th [I x,I y]=Wf (I (max x y)):=by simp only[gk,LS]
      have a1:aD .add (I lo) (I (min x y))=Wf (I (lo+min x y)):=by rw[Eu,wrap_i64 ⟨aa,aa⟩]
      have a2:aD .add (I hi) (I (max x y))=Wf (I (hi+max x y)):=by rw[Eu,wrap_i64 ⟨aa,aa⟩]
      generalize lo+min x y=lo2 at *;generalize hi+max x y=hi2 at *;simp[jK,iw,m1,m2,x1,x2,a1,a2];refine CL aM ?_;simpa[jK,iw]using hq
     have hne1:aD .add (I (f:Int)) (.d (.int .i64 1))=Wf (I ((f:Int)+1)):=by rw[Eu,wrap_i64 ⟨aa,aa⟩]
     have fin:iq [] 0 (jK tt d DM (lo+min x y) (hi+max x y) SM)=Th∧rg 2 (vw DA (.ptr 1 1 0 1) (.ptr 2 1 0 1) (.ptr 3 1 0 1) (.ptr 4 1 0 1)) [] h0 k (qE ts) (dl [] 0 h0 (jK tt d DM (lo+min x y) (hi+max x y) SM)):=by
      rw[Rg _ aM];exact⟨aM,ih⟩
     simp[vw,jK,iw];refine cd sm ?_ aM;simp(disch:=try exact cC)[c1,c2];refine cd fa ?_
     have tl:=tail (λex h'=>match ex with
      |.normal=>iq [] 0 h'=Th∧rg 2 (vw DA (.ptr 1 1 0 1) (.ptr 2 1 0 1) (.ptr 3 1 0 1) (.ptr 4 1 0 1)) [] h0 k (qE ts) (dl [] 0 h0 h')
      |ex=>k ex h') fin
     rw[DK (l:=[I b]) (h:=jK tt d DM lo hi SM) (λq=>rfl)]at tl;simp[D6,hne1];refine fE (l:=[I b]) (h:=jK tt d DM lo hi SM) (λq=>?_) ?_
     .by_cases h2':t.1=2
      .rw[ip h2']at hb';rw[decide_eq_true h2',hb'];rfl
      .rw[iN h2']at hb';rw[decide_eq_false h2',hb'];rfl
     trivial
theorem adx(hm0:0<=DM)(hm:DM<=10000000)(hl:∀t∈ts,2<=t.1∧t.1<1000000∧t.2.natAbs<9223372036854775808)(hb:RW ts<=600):Ds F.vy [lN ts d,I DM] (wm (pj DM ts (0,0))):=by
 apply afp;have al:=abq ts d;have DH:Ds F.tQ [.agg [.d (.sl (RW ts) (ts.map jJ)),.d (.sl (RW ts) (ts.map jV)),S (aA d)]] (.fn F.rZ [] [.dptr (iw ts d) 0]):=al
 have nl:=P0 (d:=d) (DM:=DM) hm0 hm (tt:=ts) (λex h=>aU [(.ret,λ_ h=>
  bnd (ld1 h (.ptr 2 1 0 1)) λv8=>
  bnd (ld1 h (.ptr 3 1 0 1)) λv9=>
  bnd (ld1 h (.ptr 4 1 0 1)) λv10=>
  out (wm (pj DM ts (0,0))) (.tup [v8,v9,v10]) h),
  (.normal,λ_ h=>
   bnd (ld1 h (.ptr 2 1 0 1)) λv11=>
   bnd (ld1 h (.ptr 3 1 0 1)) λv12=>
   sp h (.ptr 2 1 0 1) [.ptr 3 1 0 1]<|aS h 1 (.ptr 2 1 0 1) v11 λ_ h=>
   aS h 1 (.ptr 3 1 0 1) v12 λ_ h=>
   aS h 1 (.ptr 4 1 0 1) (.d (.bool Th)) λ_ h=>
   bnd (ld1 h (.ptr 2 1 0 1)) λv16=>
   bnd (ld1 h (.ptr 3 1 0 1)) λv17=>
   bnd (ld1 h (.ptr 4 1 0 1)) λv18=>
   out (wm (pj DM ts (0,0))) (.tup [v16,v17,v18]) h)] ex [] h) (jK ts d DM 0 0 SM) rfl ts 0 0 0 hl aa aa aa aa aa (λa ha=>by
   rw[ha];simp[jK,iw];refine CL aM ?_;exact oj rfl rfl rfl) (λha=>by
   rw[ha];simp[jK,iw];exact oj rfl rfl rfl)
 simp[vy,lN];refine cd DH ?_ aM;simp;refine ro (O8 aa d) ?_;trivial
def ye(ts:List (Int×Int)):Prop:=RW ts<=600∧∀t∈ts,2<=t.1∧t.1<1000000∧t.2.natAbs<9223372036854775808
theorem aic(h:ye ts):∀t∈ts,ay t.2.natAbs<=100000:=λt ht=>
 Z1 (eC (d:=19) (by have:=(h.2 t ht).2.2;omega) am) am
def mA(ts:List (Int×Int)):Int:=match pj 10000000 ts (0,0)with
 |none=>0
 |some a=>if 0<=a.1 then 1 else if a.2<=0 then -1 else 0
theorem SI(h:ye ts):Ds F.vv [lN ts d] (I (mA ts)):=by
 apply afn;have ne:=adx (d:=d) (DM:=10000000) am am h.2 h.1;have ne':Ds F.vy [.agg [.d (.sl (RW ts) (ts.map jJ)),.d (.sl (RW ts) (ts.map jV)),S (aA d)],I 10000000] (wm (pj 10000000 ts (0,0))):=ne;simp[vv,lN];refine cd ne' ?_ aM;unfold mA;cases pj 10000000 ts (0,0)with
 | none=>
  simp[wm]
 | some a=>
  simp only;by_cases c1:0<=a.1
  .simp_all[wm]
  .rw[iN c1];by_cases c2:a.2<=0
   .simp_all[wm]
   simp_all[iN,wm]
def Hn(ts:List (Int×Int)):Prop:=∀i,i<6->Md (64*2^i) ts
def pW(ts:List (Int×Int)):Nat->Nat->Option Int
 |0,_=>Vc
 |r+1,n=>if 0<=(dW n ts (0,0)).1 then Wf 1 else if(dW n ts (0,0)).2<=0 then Wf (-1)else pW ts r (n*2)
def xQ(ts:List (Int×Int)):Option Int:=match ts with
 |[]=>Wf 0
 |_=>if mA ts≠0 then Wf (mA ts)else pW ts 6 64
theorem af1(z:Int):0<=eU z↔0<=z:=by unfold eU;split<;>(try split)<;>omega
theorem af0(z:Int):eU z<=0↔z<=0:=by unfold eU;split<;>(try split)<;>omega
theorem PP{ts:List (Int×Int)}{d:Nat}(h:ye ts)(hl:Hn ts)(k:KL)(h0:Hp)(hh:RW h0=1):∀(r i:Nat)(s:Int),i+r=6->pW ts r (64*2^i)=Wf s->(∀h,k .ret [I s] h) ->
  lp (Kv DA (.ptr 0 1 0 3)) [] h0 [I ((64*2^i:Nat):Int)] [(1,.vars ((iw ts d).map .d))] k
 |0,i,s,hi,hs,hk=>by trivial
 | r+1,i,s,hi,hs,hk=>by
  have hn:64*2^i<=3900:=by
   have:2^i<=2^5:=Z2 am aa;omega
  have en:=amH (n:=64*2^i) (d:=d) hn (hl i aa) (aic h) (by have:=h.1;omega);have en':Ds F.xL [.agg [.d (.sl (RW ts) (ts.map jJ)),.d (.sl (RW ts) (ts.map jV)),S (aA d)],I ((64*2^i:Nat):Int)] (.tup [S (itoa (dW (64*2^i) ts (0,0)).1),S (itoa (dW (64*2^i) ts (0,0)).2)]):=en
  have hd:64*2^i*2=64*2^(i+1):=by rw[Nat.pow_succ,<-Nat.mul_assoc]
  simp only[pW,hd]at hs;generalize dW (64*2^i) ts (0,0)=e at *;have ih:=PP (d:=d) h hl k h0 hh r (i+1) s aa;have hm:((64*2^i:Nat):Int)*2=((64*2^(i+1):Nat):Int):=by rw[<-hd];omega
  generalize 64*2^(i+1)=m2 at *;generalize 64*2^i=m at *;have s1:=tT e.1;have s2:=tT e.2;have n1:=af1 e.1;have n2:=af0 e.2;apply aL;simp[Kv,iw];refine cd en' ?_ aM;simp;refine cd s1 ?_ aM;by_cases c1:0<=e.1
  .simp_all
  .rw[iN c1]at hs;have c1':¬0<=eU e.1:=λx=>c1 (n1.1 x)
   simp[c1'];refine cd s2 ?_ aM;by_cases c2:e.2<=0
   .simp_all
   .rw[iN c2]at hs;have c2':¬eU e.2<=0:=λx=>c2 (n2.1 x)
    have ih:=ih hs hk;simp(disch:=try exact cC)[c2',hm];exact ih
theorem afT(h:ye ts)(hl:Hn ts)(hs:xQ ts=Wf z):Ds F.oW [lN ts d] (I z):=by
 apply Q4;have qo:=SI (d:=d) h;have qo':Ds F.vv [.agg [.d (.sl (RW ts) (ts.map jJ)),.d (.sl (RW ts) (ts.map jV)),S (aA d)]] (I (mA ts)):=qo;cases hts:ts with
 | nil=>
  simp_all[xQ,oW,lN,bh]
 | cons t r=>
  have MT:¬ts=[]:=by rw[hts];simp
  have hs':(if mA ts≠0 then Wf (mA ts)else pW ts 6 64)=Wf z:=by rw[hts]at hs ⊢;exact hs
  rw[<-hts];have ll:bh (.d (.sl (RW ts) (ts.map jJ)))=Wf (I (RW ts)):=rfl;by_cases hq:mA ts=0
  .rw[iN aa]at hs'
   have sl:=PP (d:=d) h hl (aU [(.ret,λl9 h=>out (I z) (ge l9 0) h)]) [(1,.vars ((iw ts d).map .d))] rfl 6 0 z rfl hs' (λh=>by
    simp)
   simp only[iw,Zv,Yq]at sl;rw[hq]at qo';simp[oW,lN,ll,MT];refine cd qo' ?_ aM;trivial
  .rw[ip aa]at hs';simp only[Z9]at hs';subst hs';simp[oW,lN,ll,MT];refine cd qo' ?_ aM;simp[hq]
theorem afU(h:ye ts)(hq:ts≠[]->mA ts≠0):Ds F.oW [lN ts d] (I (if ts=[]then 0 else mA ts)):=by
 apply Q4;have qo:Ds F.vv [.agg [.d (.sl (RW ts) (ts.map jJ)),.d (.sl (RW ts) (ts.map jV)),S (aA d)]] (I (mA ts)):=SI (d:=d) h;by_cases MT:ts=[]
 .simp_all[oW,lN,bh]
 .have ll:bh (.d (.sl (RW ts) (ts.map jJ)))=Wf (I (RW ts)):=rfl;have hq:=hq MT;rw[iN MT];simp[oW,lN,ll,MT];refine cd qo ?_ aM;simp[hq]
def tq(p:aw)(s:List Q):List (Int×Int):=fO (jR 1 s) p s
def tU(p:aw)(s:List Q)(z:Int):Prop:=ye (tq p s)∧Hn (tq p s)∧xQ (tq p s)=Wf z
def Ax(p:aw)(s:List Q)(z:Int):Prop:=∀d,Ds F.oW [lN (tq p s) d] (I z)
theorem KC{p:aw}(h:tU p s z):Ax p s z:=λ_=>afT h.1 h.2.1 h.2.2
theorem aax{p:aw}(hp:ef p=0)(hN:RW p<1000000)(hl:RW s=RW p)(hs:jq s):Ds F.vF [aj di p,aX s] (I 0):=by
 have:=afS (p:=p) (s:=s.map tx) aa (λx hx=>by
  obtain⟨y,hy,rfl⟩:=Zw.1 hx;have⟨l1,l2⟩:=EU (hs y hy).2;omega) ae
 unfold FK xW at this;rw[ip hp,List.length_map,ip hl,JX hs]at this;exact this
theorem abA{p:aw}(hp:ef p=0)(hN:RW p<3000)(hl:RW s=RW p)(hs:jq s)(hz:Ax p s z):Ds F.r9 [aj di p,aX s] (.tup [I z,I 0]):=by apply afJ;have ck:=aax hp aa hl hs;have to_:=P8 (p:=p) (s:=s) (K:=30) aa hl.symm hs aa am;have si:=hz (jR 1 s);simp[r9];refine cd ck ?_ aM;simp;refine cd to_ ?_ aM;simp;refine cd si ?_ aM;simp[fR]
theorem aqp{p:aw}(hp:ef p=0)(hN:RW p<3000)(hl:RW s=RW p)(hs:jq s)(hz:tU p s z):Ds F.r9 [aj di p,aX s] (.tup [I z,I 0]):=abA hp hN hl hs (KC hz)
def kC(p:aw)(a b:List Q):List Q:=gA (RW p) [a,b] [(1,1),(-1,1)]
theorem To:fJ 1 [(1,1),(-1,1)]:=λx hx=>by
 simp at hx;rcases hx with rfl|rfl
 .exact⟨⟨am,am⟩,eC am am,eC am am⟩
 .exact⟨⟨am,am⟩,eC am am,eC am am⟩
theorem aoA{p:aw}{a b:List Q}(hN:RW p<1000)(ha:RW a=RW p)(hb:RW b=RW p)(oa:jq a)(ob:jq b)(hz:Ax p (kC p a b) z):Ds F.As [aj di p,aX a,aX b] (I z):=by
 apply afH
 have hab:∀s ∈ [a,b],RW s=RW p∧fJ 30 s:=λs hs=>by
  simp at hs;rcases hs with rfl|rfl
  .trivial
  trivial
 have su:=J0 (n:=RW p) (l:=[a,b]) (fs:=[(1,1),(-1,1)]) (Ks:=30) (Kk:=1) aa ac rfl am ac hab To;have oK:fJ 65 (kC p a b):=J2 (Ks:=30) (Kk:=1) (Ko:=1) (EL _) (λs hs=>(hab s hs).2) To
 have hl:RW (kC p a b)=RW p:=by
  unfold kC gA;rw[vi (λs hs=>by grind)];simp
 have to_:=P8 (p:=p) (s:=kC p a b) (K:=65) aa hl.symm oK aa am;have si:=hz (jR 1 (kC p a b));have l1:∀H,cI 2 [aW] [(0,aX a),(1,aX b)] H=Wf ([bX a,bX b],H):=λH=>Hh ..
 have l2:∀H,cI 2 [D.str [],D.str []] [(0,.agg (qT (1,1))),(1,.agg (qT (-1,1)))] H=Wf (bb (tx (1,1))++bb (tx (-1,1)),H):=λH=>aju (1,1) (-1,1) H
 have l3:bh (aj di p)=Wf (I (RW p)):=rfl;simp[As,l1,l3];refine cd (GO (z:=1) aa aa) ?_;simp;refine cd (GO (z:=-1) aa aa) ?_;simp[l2];refine cd (v:=aX (kC p a b)) su ?_ aM;simp;refine cd to_ ?_ aM;simp;refine cd si ?_ aM;simp
theorem abF{p:aw}{a b:List Q}(hp:ef p=0)(hN:RW p<1000)(ha:RW a=RW p)(hb:RW b=RW p)(oa:jq a)(ob:jq b)(hz:Ax p (kC p a b) z):Ds F.kr [aj di p,aX a,aX b] (.tup [I z,I 0]):=by
 apply afM
 have ca:=Oe (p:=p) (l:=[a,b]) aa ac (λs hs=>by
  simp at hs;rcases hs with rfl|rfl
  .exact⟨oa,aa⟩
  .exact⟨ob,aa⟩)
 rw [ip hp,I8 (n:=RW p) (l:=[a,b]) λs hs=>by
  grind]at ca
 have co:=aoA hN ha hb oa ob hz;have l1:∀H,cI 2 [aW] [(0,aX a),(1,aX b)] H=Wf ([bX a,bX b],H):=λH=>Hh ..
 simp[kr,l1];refine cd (v:=I 0) ca ?_ aM;simp;refine cd co ?_ aM;simp[fR]
def pL(z:Int):Int:=max z (-z)*(2*max z 0-1)
def Ez(p:aw)(s:List Q)(z:Int):List Q:=gA (RW p) [s] [(pL z,1)]
theorem abw{p:aw}(hp:ef p=0)(hN:RW p<1000)(hl:RW s=RW p)(hs:jq s)(hz:Ax p s z)(h1 : -1<=z)(h2:z<=1):Ds F.vG [aj di p,aX s] (.tup [aX (Ez p s z),I 0]):=by
 apply afR;have si:=abA hp aa hl hs hz
 have hk:pL z=z:=by
  rcases(show z = -1∨z=0∨z=1 by omega)with rfl|rfl|rfl<;>rfl
 have hkk:fJ 1 [(pL z,1)]:=λx hx=>by
  simp at hx;subst hx;exact⟨⟨ac,ac⟩,eC aa am,eC ac am⟩
 have su:=J0 (n:=RW p) (l:=[s]) (fs:=[(pL z,1)]) (Ks:=30) (Kk:=1) aa ac rfl am ac (λt ht=>by
  simp at ht;subst ht;trivial) hkk
 have su':Ds F.r8 [I (RW p),aj bX [s],aX [(pL z,1)]] (aX (Ez p s z)):=su;have l1:∀H,cI 1 [aW] [(0,aX s)] H=Wf ([bX s],H):=λH=>uk ..
 have l2:∀H,cI 1 [D.str [],D.str []] [(0,.agg (qT (pL z,1)))] H=Wf (bb (tx (pL z,1)),H):=λH=>Dw (pL z,1) H
 have l3:bh (aj di p)=Wf (I (RW p)):=rfl;have m1:gk Th [I z,I (-z)]=Wf (I (max z (-z))):=by simp only[gk,LS]
 have m2:gk Th [I z,I 0]=Wf (I (max z 0)):=by simp only[gk,LS]
 have n1:aD .mul (.d (.int .i64 2)) (I (max z 0))=Wf (I (2*max z 0)):=by rw[zq,wrap_i64 ⟨aa,aa⟩]
 have n2:aD .sub (I (2*max z 0)) (.d (.int .i64 1))=Wf (I (2*max z 0-1)):=by rw[Ca,wrap_i64 ⟨aa,aa⟩]
 have n3:aD .mul (I (max z (-z))) (I (2*max z 0-1))=Wf (I (pL z)):=by
  rw[zq,wrap_i64 ae];rfl
 have nb:=GO (z:=pL z) aa aa
 have neg:gL .neg (I z)=Wf (I (-z)):=by
  rcases(show z = -1∨z=0∨z=1 by omega)with rfl|rfl|rfl<;>rfl
 simp[vG];refine cd si ?_ aM;clear su;generalize pL z=az at *;generalize max z (-z)=a1 at *;generalize max z 0=a2 at *;generalize 2*a2-1=a4 at *;simp[l1,l3,neg,m1,m2,n1,n2,n3];refine cd nb ?_;simp[l2];refine cd (v:=aX (Ez p s z)) su' ?_ aM;simp[fR,z8]
def Tt(ts:List (Int×Int)):Prop:=RW ts<=8∧∀t∈ts,2<=t.1∧t.1<128∧t.2.natAbs<9223372036854775808
theorem aje{n d:Int}(h:d≠0):gC (ju n d):=by unfold ju;split<;>exact Hb _ aa
theorem aid(h:Tt ts):ye ts:=⟨by have:=h.1;omega,λt ht=>⟨(h.2 t ht).1,by have:=(h.2 t ht).2.1;omega,(h.2 t ht).2.2⟩⟩
theorem Ff{l:List (List Q)}(h:∀s∈l,RW s=n):RW (gA n l f)=n:=by unfold gA;rw[vi (λs hs=>by simpa using h s hs)];simp
def b9:aw->aw->Int
 |a::r,b::t=>a*b+b9 r t
 |_,_=>0
def vP(E:Int)(ws:Int):aw->aw->aw->Bool
 |w::W,l::L,u::U=>decide (E*u=w+ws*l)&&vP E ws W L U
 |[],[],[]=>Th
 |_,_,_=>SM
def Fh:aw->Nat
 |[]=>0
 |w::W=>w.natAbs+Fh W
theorem YP{E ws:Int}:∀{w L u:aw},vP E ws w L u=Th->∀c:aw,E*b9 c u=b9 c w+ws*b9 c L
 |[],[],[],_,c=>by cases c<;>simp[b9]
 |w::W,l::L,u::U,h,[]=>by simp[b9]
 | w::W,l::L,u::U,h,x::c=>by
  simp[vP,Z7,dT]at h;have ih:=YP h.2 c;simp[b9,V2];rw[ih]
  have e1:E*(x*u)=x*w+ws*(x*l):=by
   have:E*(x*u)=x*(E*u):=by rw[Int.mul_left_comm]
   rw[this,h.1,V2,Int.mul_left_comm x ws l]
  rw[e1];omega
 |[],[],_::_,h,_=>by simp[vP]at h
 |[],_::_,_,h,_=>by simp[vP]at h
 |_::_,[],_,h,_=>by simp[vP]at h
 |_::_,_::_,[],h,_=>by simp[vP]at h
theorem YU{B:Nat}:∀(c w:aw),(∀x∈c,x.natAbs<=B)->(b9 c w).natAbs<=Fh w*B
 |[],w,_=>by simp[b9]
 |x::c,[],_=>by simp[b9]
 | x::c,w::W,h=>by
  have h1:=h x ac;have ih:=YU c W λy hy=>h y (by simp[hy])
  have h2:(x*w).natAbs<=w.natAbs*B:=by
   rw[Zl,Zq];exact Z4 _ h1
  have h3:=Xz (x*w) (b9 c W);simp only[b9,Fh,Nat.add_mul];omega
structure uX where
 w:aw
 s:Int
 u:aw
variable{rs:List uX}
def Gb(k E B G:Nat)(L:aw)(r:uX):Bool:=vP E r.s r.w L r.u&&decide (Fh r.w*B+r.s.natAbs*G<E)&&decide (RW r.u=k)
theorem row_zero{B:Nat}{r:uX}(h:Gb k E B G L r=Th){c:aw}(hc:∀x∈c,x.natAbs<=B)(hL:(b9 c L).natAbs<=G):b9 c r.u=0:=by
 simp[Gb,Z7,dT]at h;have h1:=YP h.1.1 c;have h2:=YU c r.w hc
 have h3:(r.s*b9 c L).natAbs<=r.s.natAbs*G:=by
  rw[Zl];exact Z4 _ hL
 have h4:=Xz (b9 c r.w) (r.s*b9 c L);rw[<-h1,Zl,Int.natAbs_natCast]at h4;have h5:E*(b9 c r.u).natAbs<E*1:=by rw[Y1];exact Zf (Z1 h4 (Nat.add_le_add h2 h3)) h.1.2
 have h6:=Xd h5;omega
def zt(v:Int):aw->aw->aw
 |x::a,y::b=>(v*x+y)::zt v a b
 |_,_=>[]
def ti(k:Nat):aw->cN->aw
 |v::V,u::U=>zt v u (ti k V U)
 |_,_=>So k 0
theorem YW(v:Int):∀(c a b:aw),RW a=RW b->b9 c (zt v a b)=v*b9 c a+b9 c b
 |[],a,b,_=>by simp[b9]
 |x::c,[],[],_=>by simp[b9,zt]
 | x::c,y::a,z::b,h=>by
  simp[zt,b9,YW v c a b (by simpa using h),V2];rw[Int.mul_left_comm x v y];omega
 |x::c,[],_::_,h=>by simp at h
 |x::c,_::_,[],h=>by simp at h
theorem aba(v:Int):∀(a b:aw),RW a=RW b->RW (zt v a b)=RW a
 |[],[],_=>rfl
 |x::a,y::b,h=>by simp[zt,aba v a b (by simpa using h)]
 |[],_::_,h=>by simp at h
 |_::_,[],h=>by simp at h
theorem aal{k:Nat}:∀(V:aw)(U:cN),(∀u∈U,RW u=k)->RW (ti k V U)=k
 |[],_,_=>by simp[ti]
 |_::_,[],_=>by simp[ti]
 | v::V,u::U,h=>by
  have h1:=h u ac;have ih:=aal V U λy hy=>h y (by simp[hy])
  rw[ti,aba v _ _ (by rw[h1,ih]),h1]
theorem NA:∀(c:aw)(k:Nat),b9 c (So k 0)=0
 |[],k=>by simp[b9]
 |x::c,0=>by simp[b9]
 |x::c,k+1=>by simp[List.replicate_succ,b9,NA c k]
theorem YV{k:Nat}{c:aw}:∀(V:aw)(U:cN),(∀u∈U,RW u=k)->(∀u∈U,b9 c u=0)->b9 c (ti k V U)=0
 |[],_,_,_=>by rw[ti];exact NA c k;simp
 |_::_,[],_,_=>by rw[ti];exact NA c k;simp
 | v::V,u::U,h,h0=>by
  have h1:=h u ac;have hl:=aal V U λy hy=>h y (by simp[hy])
  rw[ti,YW v _ _ _ (by rw[h1,hl]),h0 u ac,YV V U (λy hy=>h y (by simp[hy])) λy hy=>h0 y (by simp[hy])];simp
def zL:Nat->aw->Bool
 |0,x::r=>decide (x=1)&&r.all λy=>decide (y=0)
 |i+1,x::r=>decide (x=0)&&zL i r
 |_,[]=>SM
theorem YS:∀(c r:aw),(r.all λy=>decide (y=0))=Th->b9 c r=0
 |[],r,_=>by simp[b9]
 |x::c,[],_=>by simp[b9]
 | x::c,y::r,h=>by
  simp only[List.all_cons,Z7,dT]at h;simp[b9,h.1,YS c r h.2]
theorem YO:∀(i:Nat)(c r:aw),zL i r=Th->b9 c r=c.getD i 0
 |_,[],r,_=>by simp[b9]
 |i,x::c,[],h=>by cases i<;>simp[zL]at h
 | 0,x::c,y::r,h=>by
  simp only[zL,Z7,dT]at h;simp[b9,h.1,YS c r h.2]
 | i+1,x::c,y::r,h=>by
  simp[zL,Z7,dT]at h;simp[b9,h.1,YO i c r h.2]
def B7(k E B G:Nat)(L:aw)(rs:List uX)(V:cN):Bool:=
 rs.all (Gb k E B G L)&&(List.range k).all λi=>zL i (ti k (V.getD i []) (rs.map uX.u))
theorem aoS{B:Nat}{V:cN}(h:B7 k E B G L rs V=Th){c:aw}(hk:RW c=k)(hc:∀x∈c,x.natAbs<=B)(hL:(b9 c L).natAbs<=G):∀x∈c,x=0:=by
 simp only[B7,Z7,Zz,Xi]at h;intro x hx;obtain⟨i,hi,rfl⟩:=Wi hx;have h1:=h.2 i aa;have h2:=YO i c _ h1
 have hu:∀u∈rs.map uX.u,RW u=k:=by
  intro u hu;obtain⟨r,hr,rfl⟩:=Zw.1 hu;have:=h.1 r hr;simp[Gb,Z7,dT]at this;exact this.2
 have hz:∀u∈rs.map uX.u,b9 c u=0:=by
  intro u hu;obtain⟨r,hr,rfl⟩:=Zw.1 hu;exact row_zero (h.1 r hr) hc hL
 rw[YV _ _ hu hz]at h2;rw[Z6,List.getElem?_eq_getElem hi]at h2;simpa using h2.symm
def VE(p q a:Int):aw->aw->aw
 |t::ts,r::rs=>(p*t-a*r)/q::VE p q a ts rs
 |_,_=>[]
def MK(p q:Int)(rest:aw):cN->cN
 |(a::t)::R=>VE p q a t rest::MK p q rest R
 |_=>[]
def VF:Nat->cN->Int->cN->cN
 |n+1,D,q,(p::rest)::R=>VF n (MK p q rest D++[rest]) p (MK p q rest R)
 |_,D,q,_=>D.map λr=>r.map (q * ·)
def acs(k i:Nat):aw:=(List.range k).map λj=>if i=j then 1 else 0
def abb(k:Nat):Nat->cN->cN
 |i,v::V=>(v++acs k i)::abb k (i+1) V
 |_,[]=>[]
def ivM(k:Nat)(V:cN):cN:=VF k [] 1 (abb k 0 V)
def agO(E:Int)(L:aw)(u:aw):uX:=⟨List.zipWith (λx l=>E*x-u.getLastD 0*l) u L,u.getLastD 0,u⟩
def eD(n:Nat)(p:Int):Int:=(lg p n:Int)
def oJ:aw:=[2,3,5,7,11,13]
def Ow:aw:=oJ.map (eD 2048)
def Ox:Nat:=lg 13 2048
def Ov:cN:=[[2505632726243893919427248,37363649317514420902466093,46477260228354403041493751,-58003229516542057431797140,-15057295410276108388899585,-14971856798368046033805264],[-6468867710079767890381561,-11119633146733715149791251,25758522260144387158066355,25120626473553828029748921,-21017786884855784315416113,20457306914538837573482104],[-10822464117439059568603833,19535643540806504414588147,459074409943010318492609,9756398330483923621702778,-50098038355954498359498971,-61366103515540422680131324],[14537544594484470209685826,5835193301654337655457460,-30420219925102840764344579,-25199522547478204684291748,-18922988829788052015374945,35044169305270853272295706],[-33980339139849080327203319,-31910829884962694460020145,2738906948132587203398157,-12766138930794734537985420,30249525070648516782987174,10887861776468812857315007],[29622662201364248515898145,7813143869208612526792154,-3362896834617060908787601,29845618333873557643178232,30583155841379738043590236,-2975798287937716846607034]]
theorem aph:oJ.map (eD 2048)=Ow:=rfl
def c6R:List uX:=(ivM 6 Ov).map (agO Ox Ow)
theorem ape:B7 6 Ox 73786976294838206464 73786976294838206464 Ow c6R Ov=Th:=dw
theorem Ou:B7 6 Ox 73786976294838206464 73786976294838206464 (oJ.map (eD 2048)) c6R Ov=Th:=by rw[aph];exact ape
def iY(h:Int->Int):List (Int×Int)->Int
 |[]=>0
 |t::ts=>t.2*h t.1+iY h ts
def oc:List (Int×Int)->Nat
 |[]=>0
 |t::ts=>t.2.natAbs+oc ts
def nQ:List (Int×Int)->Int->Int
 |[],_=>0
 |t::ts,c=>(if t.1=c then t.2 else 0)+nQ ts c
theorem Ip(n:Nat):∀ts:List (Int×Int),(dW n ts (0,0)).1<=iY (eD n) ts∧iY (eD n) ts<=(dW n ts (0,0)).2∧(dW n ts (0,0)).2-(dW n ts (0,0)).1<=oc ts
 |[]=>by simp[dW,iY,oc]
 | t::ts=>by
  have⟨h1,h2,h3⟩:=Ip n ts;have⟨x,hx⟩:∃x:Int,x=lg t.1 n:=⟨_,rfl⟩;have⟨y,hy⟩:∃y:Int,y=if t.1=2 then x else x+1:=⟨_,rfl⟩
  have hxy:y=x∨y=x+1:=by rw[hy];split<;>simp
  have e:dW n (t::ts) (0,0)=dW n ts (if t.2<0 then(0+y*t.2,0+x*t.2)else(0+x*t.2,0+y*t.2)):=by
   rw[hy,hx];rfl
  have e2:iY (eD n) (t::ts)=t.2*x+iY (eD n) ts:=by rw[hx];rfl
  rw[e,e2,Eb ts];simp only[oc,Xa]
  have m1:y*t.2=x*t.2∨y*t.2=x*t.2+t.2:=by
   rcases hxy with h|h
   .left;rw[h]
   .right;rw[h,Wz,Int.one_mul]
  rw[Yi t.2 x];by_cases hn:t.2<0
  .rw[ip hn];simp only;omega
  .rw[iN hn];simp only;omega
theorem YT(f g:Int->Int):∀(P L:aw),b9 (P.map λc=>f c+g c) L=b9 (P.map f) L+b9 (P.map g) L
 |[],L=>by simp[b9]
 |p::P,[]=>by simp[b9]
 | p::P,l::L=>by
  simp only[Zv,b9,YT f g P L,Wz];omega
theorem YR(h:Int->Int)(a z:Int):∀P:aw,a ∉ P->b9 (P.map λc=>if a=c then z else 0) (P.map h)=0
 |[],_=>by simp[b9]
 | p::P,hn=>by
  simp only[Zy,not_or]at hn;simp[b9,hn.1,YR h a z P hn.2]
theorem YQ(h:Int->Int)(a z:Int):∀P:aw,P.Nodup->a∈P->b9 (P.map λc=>if a=c then z else 0) (P.map h)=z*h a
 |[],_,hm=>by simp at hm
 | p::P,hn,hm=>by
  rw[Xx]at hn;by_cases e:a=p
  .subst e;simp[b9,YR h a z P hn.1]
  .have:a∈P:=by simpa[e]using hm
   simp[b9,e,YQ h a z P hn.2 this]
theorem PO(h:Int->Int){P:aw}(hP:P.Nodup):∀ts:List (Int×Int),(∀t∈ts,t.1∈P)->iY h ts=b9 (P.map (nQ ts)) (P.map h)
 | [],_=>by
  have:∀P:aw,b9 (P.map (nQ [])) (P.map h)=0:=by
   intro P
   induction P with
   |nil=>rfl
   |cons p P ih=>rw[Zv,Zv,b9,ih];simp[nQ]
  rw[this];rfl
 | t::ts,hm=>by
  rw[iY,PO h hP ts λu hu=>hm u (by simp[hu])];have:nQ (t::ts)=λc=>(if t.1=c then t.2 else 0)+nQ ts c:=by funext c;rfl
  rw[this,YT,YQ h t.1 t.2 P hP (hm t ac)]
theorem aay(c:Int):∀ts:List (Int×Int),(nQ ts c).natAbs<=oc ts
 |[]=>by simp[nQ]
 | t::ts=>by
  have:=aay c ts;simp only[nQ,oc];split<;>omega
theorem Oi{c:Int}:∀ts:List (Int×Int),c ∉ ts.map Prod.fst->nQ ts c=0
 |[],_=>rfl
 | t::ts,h=>by
  simp only[Zv,Zy,not_or]at h;rw[nQ,iN (λe=>h.1 e.symm),Oi ts h.2];rfl
theorem TR{B:Nat}{V:cN}(hc:B7 k E B G (P.map (eD n)) rs V=Th)(hk:RW P=k)(hP:P.Nodup)(hm:∀t∈ts,t.1∈P)(hB:oc ts<=B)(hG:(iY (eD n) ts).natAbs<=G):∀c∈P,nQ ts c=0:=by
 intro c hcP
 have h1:=aoS hc (c:=P.map (nQ ts)) (by simpa using hk) (by
  intro x hx;obtain⟨d,_,rfl⟩:=Zw.1 hx;exact Z1 (aay d ts) hB) (by rw[<-PO (eD n) hP ts hm];exact hG)
 exact h1 _ (List.mem_map_of_mem hcP)
theorem Re{B:Nat}{V:cN}(hc:B7 k E B G (P.map (eD n)) rs V=Th)(hk:RW P=k)(hP:P.Nodup)(hm:∀t∈ts,t.1∈P)(hn:(ts.map Prod.fst).Nodup)(h0:∀t∈ts,t.2≠0)(hB:oc ts<=B)(hG:oc ts<=G)(MT:ts≠[]):
  0<=(dW n ts (0,0)).1∨(dW n ts (0,0)).2<=0:=by
 have⟨g1,g2,g3⟩:=Ip n ts;by_cases hd:0<=(dW n ts (0,0)).1∨(dW n ts (0,0)).2<=0
 .exact hd
 .exfalso;have hz:=TR hc hk hP hm hB aa;cases ts with
  |nil=>exact MT rfl
  | cons t ts=>
   have h1:=hz t.1 (hm t ac);simp only[Zv,Xx]at hn;rw[nQ,ip rfl,Oi ts hn.1]at h1;exact h0 t ac aa
theorem Rf{ts:List (Int×Int)}:∀(r n j:Nat),j<r->(0<=(dW (n*2^j) ts (0,0)).1∨(dW (n*2^j) ts (0,0)).2<=0)->∃s,pW ts r n=Wf s∧(s=1∨s = -1)
 |0,n,j,hj,_=>by omega
 | r+1,n,j,hj,h=>by
  unfold pW;by_cases h1:0<=(dW n ts (0,0)).1
  .exact⟨1,by rw[ip h1],Or.inl rfl⟩
  .by_cases h2:(dW n ts (0,0)).2<=0
   .exact⟨-1,by rw[iN h1,ip h2],Or.inr rfl⟩
   .rw[iN h1,iN h2];cases j with
    |zero=>simp at h;omega
    | succ j=>
     refine Rf r (n*2) j aa ?_;have:n*2*2^j=n*2^(j+1):=by rw[Nat.pow_succ,Nat.mul_assoc,Zq 2]
     rw[this];exact h
def U0(n:Nat)(p:Int):Bool:=(Bi p.toNat n).isSome&&decide (2^n<=lg p n)&&decide (lg p n+1<=8*2^n)
theorem apd:∀p∈oJ,∀i∈List.range 6,U0 (64*2^i) p=Th:=dw
theorem aiG(hk:1<=k)(h:x<2^(3*k)):ay x<=k:=by refine eC (Z0 h ?_) hk;rw[Wc];exact Nat.pow_le_pow_left am k
theorem aiE{m:Nat}(hk:1<=k)(hm:m+3<=3*k)(h:x+1<=8*2^m):ay x<=k:=by
 refine aiG hk (Z0 (Z0 (Nat.lt_succ_self x) h) ?_);have e:8*2^m=2^(m+3):=by rw[Yr,Zq]
 rw[e];exact Z2 am hm
theorem aaI:∀p∈oJ,2<=p∧p<128:=am
theorem Ot:oJ.Nodup:=am
theorem apf{p:Int}(hp:p∈oJ)(hi:i<6):(Bi p.toNat (64*2^i)).isSome=Th∧2^(64*2^i)<=lg p (64*2^i)∧lg p (64*2^i)+1<=8*2^(64*2^i):=by have:=apd p hp i (Xi.2 hi);simp only[U0,Z7,dT]at this;exact⟨this.1.1,this.1.2,this.2⟩
theorem apg(h:∀t∈ts,t.1∈oJ):Hn ts:=by intro i hi t ht;have⟨h1,h2,h3⟩:=apf (h t ht) hi;have⟨p1,p2⟩:=aaI _ (h t ht);refine⟨p1,aa,h1,?_⟩;have⟨k,hk⟩:=bD (1500);rw[<-hk];refine aiE aa ?_ h3;have:2^i<=2^5:=Z2 am aa;omega
theorem J1{C:Nat}:∀ts:List (Int×Int),(∀t∈ts,t.2.natAbs<=C)->oc ts<=RW ts*C
 |[],_=>by simp[oc]
 | t::ts,h=>by
  have h1:=h t ac;have h2:=J1 ts λu hu=>h u (by simp[hu])
  simp only[oc,List.length_cons,X3];omega
theorem apc(hm:∀t∈ts,t.1∈oJ)(hn:(ts.map Prod.fst).Nodup)(h0:∀t∈ts,t.2≠0)(hl:RW ts<=6)(hb:∀t∈ts,t.2.natAbs<9223372036854775808)(MT:ts≠[]):∃s,pW ts 6 64=Wf s∧(s=1∨s = -1):=by
 refine Rf 6 64 5 am ?_;have h1:=J1 (C:=9223372036854775808) ts λt ht=>V9 (hb t ht)
 have h2:RW ts*9223372036854775808<=6*9223372036854775808:=Zu _ hl;have hb1:oc ts<=73786976294838206464:=aa;have h3:=Re (n:=2048) Ou rfl Ot hm hn h0 hb1 hb1 MT;have e:64*2^5=2048:=am;rw[e];exact h3
def rp(b:Nat)(x:Q)(a:Int):Prop:=gC x∧x.1*(b:Int)=a*(x.2:Int)
theorem FY{n a:Int}{b:Nat}(hd:0<d)(h:n*(b:Int)=a*(d:Int)):rp b (fD n d) a:=by
 have⟨h1,h2⟩:=ajg n hd;refine⟨Hb n hd,?_⟩;have hd':(d:Int)≠0:=aa;refine Int.eq_of_mul_eq_mul_right hd' ?_
 calc (fD n d).1*(b:Int)*(d:Int)=(fD n d).1*(d:Int)*(b:Int):=by rw[Ys]
  _=n*((fD n d).2:Int)*(b:Int):=by rw[h1]
  _=n*(b:Int)*((fD n d).2:Int):=by rw[Ys]
  _=a*((fD n d).2:Int)*(d:Int):=by rw[h,Ys]
theorem F5{b:Nat}{x y:Q}{a c:Int}(hx:rp b x a)(hy:rp b y c):rp b (d9 x y) (a+c):=by
 have p1:=hx.1.1;have p2:=hy.1.1;refine FY (Yk p1 p2) ?_;rw[Wz,Wz,Int.natCast_mul]
 have e1:x.1*(y.2:Int)*(b:Int)=a*((x.2:Int)*(y.2:Int)):=by
  rw[Ys,hx.2,Int.mul_assoc]
 have e2:y.1*(x.2:Int)*(b:Int)=c*((x.2:Int)*(y.2:Int)):=by
  rw[Ys,hy.2,Int.mul_assoc,Yi (y.2:Int)]
 rw[e1,e2]
theorem RJ{b:Nat}{x:Q}{a:Int}(z:Int)(hx:rp b x a):rp b (il x (z,1)) (z*a):=by have p1:=hx.1.1;refine FY (by simpa using p1) ?_;simp[Y1];rw[Ys,hx.2,Int.mul_assoc,Yi (x.2:Int),<-Int.mul_assoc,Yi a]
theorem agF{b:Nat}{x:Q}{a:Int}(m:Nat)(hx:rp b x a):rp (b*m) x (a*m):=
 ⟨hx.1,by rw[Int.natCast_mul,<-Int.mul_assoc,hx.2,Ys]⟩
theorem KS(b:Nat):rp b (0,1) 0:=⟨⟨am,am⟩,ac⟩
theorem FZ{b:Nat}{x:Q}{a:Int}(h:rp b x a):x.2∣b:=by
 have h1:x.1.natAbs*b=a.natAbs*x.2:=by
  have:=RT Int.natAbs h.2;simpa[Zl]using this
 have h2:x.2∣x.1.natAbs*b:=⟨a.natAbs,by rw[h1,Zq]⟩;exact Nat.Coprime.dvd_of_dvd_mul_left (Nat.Coprime.symm h.1.2) h2
theorem RI{b:Nat}{x:Q}{a:Int}(hb:0<b)(h:rp b x a):x.1.natAbs*(b/x.2)=a.natAbs:=by
 have⟨m,hm⟩:=FZ h
 have h1:x.1.natAbs*b=a.natAbs*x.2:=by
  have:=RT Int.natAbs h.2;simpa[Zl]using this
 have p:=h.1.1;rw[hm,Yc _ p];refine Nat.eq_of_mul_eq_mul_right p ?_;rw[<-h1,hm,Nat.mul_assoc,Zq m]
theorem RL{b:Nat}{x:Q}{a:Int}(hb:0<b)(h:rp b x a):x.1.natAbs<=a.natAbs∧x.2<=b:=by have h1:=RI hb h;have h2:=Xk hb (FZ h);have h3:1<=b/x.2:=(Xt h.1.1).2 aa;refine⟨?_,h2⟩;rw[<-h1];exact Zc _ h3
def eS(b B:Nat)(s:List Q):Prop:=∀x∈s,∃a:Int,rp b x a∧a.natAbs<=B
theorem Ew{b B C:Nat}(h:eS b B s)(hc:B<=C):eS b C s:=λx hx=>by
 have⟨a,h1,h2⟩:=h x hx;exact⟨a,h1,aa⟩
theorem OI{b A C:Nat}(z:Int):∀{o s:List Q},eS b A o->eS b C s->eS b (A+z.natAbs*C) (iW (z,1) o s)
 | x::o,y::s,ho,hs=>by
  have⟨a,a1,a2⟩:=ho x ac;have⟨c,c1,c2⟩:=hs y ac;have ih:=OI z (o:=o) (s:=s) (λu hu=>ho u (by simp[hu])) λu hu=>hs u (by simp[hu])
  intro u hu;simp[iW,Zy]at hu;rcases hu with rfl|hu
  .refine⟨a+z*c,F5 a1 (RJ z c1),?_⟩;have h1:=Xz a (z*c);rw[Zl]at h1;have h2:=Z4 z.natAbs c2;omega
  .exact ih u hu
 |[],s,_,_=>by intro u hu;simp[iW]at hu
 |_::_,[],_,_=>by intro u hu;simp[iW]at hu
theorem aaY(b n:Nat):eS b 0 (So n (0,1)):=λx hx=>by
 rw[Ww]at hx;rw[hx.2];exact⟨0,KS b,ac⟩
theorem apR{b B:Nat}(h:eS b B s):eS b (z.natAbs*B) (gA n [s] [(z,1)]):=by have:=OI z (aaY b n) h;simpa[gA,nA]using this
theorem aa1{b B:Nat}(hb:0<b)(h:eS b B s):∀x∈s,gC x:=λx hx=>by
 have⟨a,h1,h2⟩:=h x hx;exact h1.1
theorem zr{b B:Nat}(hb:0<b)(h:eS b B s)(h1:b<1000000000000000000000000000000)(h2:B<1000000000000000000000000000000):jq s:=λx hx=>by
 have⟨a,r1,r2⟩:=h x hx;have⟨l1,l2⟩:=RL hb r1;exact⟨r1.1,eC (d:=30) (by show _<10^30;omega) am,eC (d:=30) (by show _<10^30;omega) am⟩
theorem ZM{b:Nat}:∀{s:List Q}{d:Nat},d∣b->(∀x∈s,x.2∣b)->jR d s∣b
 |[],d,h,_=>h
 |x::s,d,h,hs=>ZM (s:=s) (Nat.lcm_dvd h (hs x ac)) λy hy=>hs y (by simp[hy])
theorem aa4{b B:Nat}(h:eS b B s):jR 1 s∣b:=ZM (Nat.one_dvd b) λx hx=>by
 have⟨a,r1,r2⟩:=h x hx;exact FZ r1
theorem Qa{b B d:Nat}(hb:0<b)(hd:d∣b):∀{p:aw}{s:List Q},eS b B s->∀t∈fO d p s,t.2.natAbs<=B
 |[],s,_,t,ht=>by simp[fO]at ht
 |p::ps,[],_,t,ht=>by simp[fO]at ht
 | p::ps,x::s,h,t,ht=>by
  have⟨a,r1,r2⟩:=h x ac;have ih:=Qa hb hd (p:=ps) (s:=s) λy hy=>h y (by simp[hy])
  simp only[fO]at ht
  have hx:(x.1*((d/x.2:Nat):Int)).natAbs<=B:=by
   rw[Zl,Int.natAbs_natCast];have h1:=RI hb r1;have h2:d/x.2<=b/x.2:=Nat.div_le_div_right (Xk hb hd);have h3:=Z4 x.1.natAbs h2;omega
  split at ht
  .exact ih t ht
  .simp only[Zy]at ht;rcases ht with rfl|ht
   .exact hx
   .exact ih t ht
theorem JS{d:Nat}:∀{p:aw}{s:List Q},∀t∈fO d p s,t.1∈p
 |[],s,t,ht=>by simp[fO]at ht
 |p::ps,[],t,ht=>by simp[fO]at ht
 | p::ps,x::s,t,ht=>by
  have ih:=JS (d:=d) (p:=ps) (s:=s);simp only[fO]at ht;split at ht
  .exact W8 _ (ih t ht)
  .simp only[Zy]at ht;rcases ht with rfl|ht
   .simp
   .exact W8 _ (ih t ht)
theorem JQ{d:Nat}:∀{p:aw}{s:List Q},p.Nodup->((fO d p s).map Prod.fst).Nodup
 |[],s,_=>by simp[fO]
 |p::ps,[],_=>by simp[fO]
 | p::ps,x::s,h=>by
  rw[Xx]at h;have ih:=JQ (d:=d) (p:=ps) (s:=s) h.2;simp only[fO];split
  .exact ih
  .simp only[Zv,Xx];refine⟨λhm=>?_,ih⟩;have⟨t,ht,e⟩:=Zw.1 hm;exact h.1 (by rw[<-e];exact JS t ht)
theorem JR{d:Nat}(hd:0<d):∀{p:aw}{s:List Q},(∀x∈s,0<x.2∧x.2∣d)->∀t∈fO d p s,t.2≠0
 |[],s,_,t,ht=>by simp[fO]at ht
 |p::ps,[],_,t,ht=>by simp[fO]at ht
 | p::ps,x::s,h,t,ht=>by
  have ih:=JR hd (p:=ps) (s:=s) λy hy=>h y (by simp[hy])
  have⟨h1,h2⟩:=h x ac;have h3:0<d/x.2:=V4 (Xk hd h2) h1;simp only[fO]at ht;split at ht
  .exact ih t ht
  .rename_i hx;simp only[Zy]at ht;rcases ht with rfl|ht
   .exact Wt hx aa
   .exact ih t ht
def uv(p:aw):Prop:=p.Nodup∧RW p<=6∧∀x∈p,x∈oJ
theorem E0{p:aw}(hp:uv p):∀t∈tq p s,t.1∈oJ:=λt ht=>hp.2.2 _ (JS t ht)
theorem PT{p:aw}{b B:Nat}(hp:uv p)(hb:0<b)(h:eS b B s)(hB:B<9223372036854775808):Tt (tq p s):=by
 refine⟨?_,λt ht=>?_⟩
 .have:=E4 (d:=jR 1 s) p s;have:=hp.2.1;unfold tq;omega
 .have⟨h1,h2⟩:=aaI _ (E0 hp t ht);exact⟨h1,h2,Zf (Qa hb (aa4 h) h t ht) hB⟩
def nU:Acc:=⟨1,0,1,.none⟩
def sF:cN:=[[2,3,5],[2,3,5,7],[2,3],[2,3,7],[2,5,7],[3,5,7],[2,3,5,11],[2],[2,3,7,13],[3,5,7,13]]
def gj(k:Nat):aw:=sF.getD (k%10) []
theorem ahq(hk:k<256):Ds F.xV [.d (.int .u8 k)] (aj di (gj k)):=by
 apply agA;have c1:ft .i64 (.d (.int .u8 (k:Int)))=Wf (I k):=by rw[aad,wrap_i64 ⟨aa,aa⟩]
 have m1:aD .rem (I (k:Int)) (I 10)=Wf (I ((k%10:Nat):Int)):=by
  rw[aaU aa,Zt aa];congr 3
 have hkk:k%10<10:=Y7 _ am;have i1:=λH:Hp=>mH row sF H (k:=.i64) (i:=((k%10:Nat):Int)) aa (by show((k%10:Nat):Int)<10;omega)
 have i2:=λH:Hp=>mZ row [] sF H (j:=k%10) hkk
 have hn:nth [] sF (k%10)=gj k:=rfl;rw[hn]at i2;generalize k%10=j at *;simp only[Int.toNat_natCast]at i1;simp(disch:=try exact cC)[xV,cI,dI,d8,dX,c1];have hw:iK.wrap .i64 (k:Int)=(k:Int):=wrap_i64 ⟨aa,aa⟩
 show rn (bnd (bh (aj row sF))) (λv13=>bnd (aD .rem (.d (.int .i64 (iK.i64.wrap k))) v13) λv14=>bnd (bC [] 1 (aj row sF) v14) λv15=>bnd (ld1 [] v15) λv16=>out (aj di (gj k)) v16 []) .mk
 have l10:bh (aj row sF)=Wf (I 10):=rfl;rw[hw,l10];rw[agP];rw[show aD .rem (.d (.int .i64 (k:Int))) (I 10)=Wf (I (j:Int))from m1];rw[B9,i1,B9,i2,B9];exact ahV ..
def gE(l:Nat)(e:aw):aw:=(e.take l).map λx=>x.tmod 10
def eE(x:Int):V:=.d (.int .i8 x)
def DN(e:aw)(L:Nat)(c:bF):Hp:=[(1,.vars (e.map eE)),nU.b L c]
theorem Tv:∀e:aw,offB [] (.vars (e.map eE))=Th
 |[]=>rfl
 | x::e=>by
  have:=Tv e;rw[AY]at this ⊢;simp[fK,gZ,eE];simpa[eE]using this
theorem VG{p:aw}{e:aw}(he:RW e=4)(hb:∀x∈e,-128<=x∧x<=127)(hp:RW p<=4)(k:KL)(h0:Hp)(hh:RW h0=2):∀(f i:Nat),i+f=RW p ->
  k (.exit 0) [nU.v (RW (gE (RW p) e)) ((gE (RW p) e).map di)] (DN e (RW (gE (RW p) e)) ((gE (RW p) e).map di)) ->
  lp (FV DA (aj di p) (.ptr 0 1 0 4)) [] h0 [nU.v (RW (gE i e)) ((gE i e).map di),I i] (DN e (RW (gE i e)) ((gE i e).map di)) k
 | 0,i,hi,hk=>by
  have g:¬(i:Int)<(RW p:Int):=aa;have:i=RW p:=aa;subst this;have l1:bh (aj di p)=Wf (I (RW p)):=rfl;apply aL;simp[FV,l1];exact hk
 | f+1,i,hi,hk=>by
  have g:(i:Int)<(RW p:Int):=aa;have g2:(i:Int)<4:=aa;have l1:bh (aj di p)=Wf (I (RW p)):=rfl;have⟨x,hx⟩:∃x,e[i]?=Wf x:=⟨e[i]'(by omega),List.getElem?_eq_getElem aa⟩;have hxm:=hb x (Ya hx);have li:RW (gE i e)=i:=by simp[gE];omega
  have ih:=VG he hb hp k h0 hh f (i+1) aa hk
  have es:gE (i+1) e=gE i e++[x.tmod 10]:=by
   unfold gE;rw[Wq,hx];simp
  rw[es]at ih;have PJ:i<RW e:=aa
  have hxe:e[i]=x:=by
   have:=List.getElem?_eq_getElem PJ;rw[hx]at this;simpa using this.symm
  have he':4=RW e:=he.symm;have r1 : -10<x.tmod 10:=Int.lt_tmod_of_pos x am;have r2:=Int.tmod_lt_of_pos x (b:=10) am;have li1:∀(z:Int)(H:Hp),cI 1 [D.int iK.i64 0] [(0,V.d (D.int iK.i64 z))] H=Wf ([di z],H):=λz H=>by simp[cI,dI,d8,dX,di]
  have cR:RW ((gE i e).map di)=RW (gE i e)*nU.n:=by simp[nU]
  have bP:∀x y:Nat×Bk,([(1,.vars (e.map eE)),x]:Hp).set nU.s y=[(1,.vars (e.map eE)),y]:=λx y=>rfl
  have hre:∀x:Hp,RW x=2->dl [] 0 h0 x=x:=λx hx=>x8 0 h0 x aa
  have ev:∀c,nU.v (RW (gE i e)+1) c=.ref nU.s (nU.e+1) 0 (RW (gE i e)+1) (RW (gE i e)+1) (RW c):=λc=>rfl
  have eb:∀c,nU.b (RW (gE i e)+1) c=(nU.e+1,.data nU.n c SM SM):=λc=>rfl
  apply aL;simp(disch:=omega) [FV,l1,g,g2,DN,he',hxe,eE,li1];refine kM nU (k:=1) aa rfl cR aM rfl (λt e=>by cases e) aa am ?_;have hoff:=Tv e;simp(disch:=try exact cC)[bP,hre,clean,fK,yh,yg,fC,gZ,hoff];refine⟨rfl,?_⟩;simpa[ev,eb,DN]using ih
theorem abE{p:aw}{a b c d:Int}(ha : -128<=a∧a<=127)(hb : -128<=b∧b<=127)(hc : -128<=c∧c<=127)(hd : -128<=d∧d<=127)(hp:RW p<=4):Ds F.tX [aj di p,.agg [eE a,eE b,eE c,eE d]] (aj di (gE (RW p) [a,b,c,d])):=by
 apply agC
 have hl:=VG (p:=p) (e:=[a,b,c,d]) rfl (by
  intro x hx;simp only[Zy,Y4,or_false]at hx;rcases hx with rfl|rfl|rfl|rfl<;>assumption) hp (aU [((.exit 0),λl2 h=>out (aj di (gE (RW p) [a,b,c,d])) (ge l2 0) h)]) [(1,.vars [eE a,eE b,eE c,eE d]),ah] rfl (RW p) 0 aa (by
  have⟨h',q1,_⟩:=mO nU (L:=RW (gE (RW p) [a,b,c,d])) (cells:=(gE (RW p) [a,b,c,d]).map di) (h:=DN [a,b,c,d] (RW (gE (RW p) [a,b,c,d])) ((gE (RW p) [a,b,c,d]).map di)) rfl (by simp[nU]);simp only[aU];exact⟨h',q1⟩)
 simp[tX];exact hl
theorem aeD(hr:∀x∈r,x.natAbs<=9):oe r=Th:=by grind[oe]
theorem Lq(k:Nat):gj k∈sF:=by simp[gj,sF,Y7]
theorem Lo:∀l∈sF,ef l=0∧l.Nodup∧0<RW l∧RW l<=4∧∀x∈l,x∈oJ:=by trivial
abbrev Rw:=aw
theorem agX{x:aw}(hx:RW x<1000000000)(hy:RW y<1000000000):Ds F.xX [aj di x,aj di y] (B (decide (x=y))):=by apply agK;simp(disch:=try exact cC)[xX];refine cd (XZ hx hy) ?_;simp(disch:=try exact cC)
def iI(c:Int)(m:cN):V:=.agg [I c,bf m]
theorem ajB{c:Int}{m m':cN}(hm:RW m<1000000)(hm':RW m'<1000000)(h2:∀r∈m,RW r<1000000)(h3:∀r∈m',RW r<1000000):
  Ds F.yI [iI c m,iI c' m'] (B (decide (c=c'∧m=m'))):=by
 apply akm;simp only[yI,iI];have eq:=YC (g:=F.xX) (λx y hx hy=>agX (x:=x) (y:=y) aa aa) hm hm' h2 h3;by_cases e:c=c'
 .simp[e];refine cd eq ?_ (by simp[bY,bQ,bf,aj,norm]);exact fp (by simp[e])
 .simp[e]
def yV(n:Int):Bool:=decide (n>1000000000)||decide (n < -1000000000)
theorem adF(n:Int):Ds F.zY [I n] (B (yV n)):=by
 apply adV;simp[zY];by_cases h:n>1000000000
 .simp[h]
  grind[fp,yV]
 .simp(disch:=omega) [h]
  grind[fp,yV]
def rS(c:Nat):cN->Int
 |[]=>0
 |r::q=>if 12<RW r then 4 else if RW r≠c then 5 else if r.any yV=Th then 4 else rS c q
def pT(m:cN):Int:=if 12<RW m then 4 else rS (RW (nth [] m 0)) m
theorem Qg{m:cN}(hm:RW m<1000000)(hr:∀r∈m,RW r<1000000)(K:KL):∀(q a:cN),m=a++q->(rS (RW (nth [] m 0)) q=0->K (.exit 0) [] [])->(rS (RW (nth [] m 0)) q≠0->K .ret [I (rS (RW (nth [] m 0)) q)] []) ->
  lp (E9 DA (bf m) (bf m) (I (RW m))) [] [] [I (RW a)] [] K
 | [],a,e,h0,h1=>by
  simp only[Zo]at e;subst e;apply aL;have PJ:¬((RW m:Int)<(RW m:Int)):=aa;simp only[E9];simp[PJ];exact h0 rfl
 | r::q,a,e,h0,h1=>by
  apply aL;have PJ:((RW a:Int)<(RW m:Int)):=by rw[e];simp;omega
  have hl:RW a<RW m:=aa;have hrm:r∈m:=by rw[e];simp
  have i1:bC [] 1 (bf m) (I (RW a))=Wf (.dptr (m.map row) (RW a)):=by rw[e];exact yK row a r q _ _
  have i2:ld1 [] (.dptr (m.map row) (RW a))=Wf (aj di r):=by
   rw[pq row m _ hl];simp only[e,Zd (Z8 _),Y5,Y2];rfl
  have j1:bC [] 1 (bf m) (.d (.int .i64 0))=Wf (.dptr (m.map row) 0):=sQ row m [] rfl aa;have j2:ld1 [] (.dptr (m.map row) 0)=Wf (aj di (nth [] m 0)):=mZ row [] m [] aa;simp only[E9];simp only[rS]at h0 h1;by_cases g1:12<RW r
  .have g1':((RW r:Int)>12):=aa;rw[ip g1]at h0 h1;simp[PJ,i1,i2,g1']
   grind
  .have g1':¬((RW r:Int)>12):=aa;rw[iN g1]at h0 h1;by_cases g2:RW r≠(RW (nth [] m 0))
   .have g2':(RW r:Int)≠(RW (nth [] m 0):Int):=aa;rw[ip g2]at h0 h1;simp[PJ,i1,i2,g1',j1,j2,g2']
    grind
   .have g2':(RW r:Int)=(RW (nth [] m 0):Int):=aa;rw[iN g2]at h0 h1;simp(disch:=omega) [PJ,i1,i2,g1',j1,j2,g2'];refine cd (aaj r aa λx _=>adF x) ?_;by_cases g3:r.any yV=Th
    .rw[ip g3]at h0 h1;simp[g3]
     grind
    .rw[iN g3]at h0 h1;have g3':r.any yV=SM:=by simpa using g3
     simp(disch:=omega) [g3'];have ih:=Qg hm hr K q (a++[r]) (by simp[e]) h0 h1;have e2:(RW (a++[r]):Int)=(RW a:Int)+1:=ac
     simp_all
theorem adS{m:cN}(hm:RW m<1000000)(hr:∀r∈m,RW r<1000000):Ds F.zZ [bf m] (I (pT m)):=by
 apply adW;simp only[zZ];have l1:bh (bf m)=Wf (I (RW m)):=rfl;by_cases g:12<RW m
 .have g':((RW m:Int)>12):=aa;simp[l1,g']
  grind[df,pT]
 .have g':¬((RW m:Int)>12):=aa;simp[l1,g'];refine lo (Qg hm hr _ m [] rfl (λe=>?_) (λe=>?_))
  .simp
   grind[df,pT]
  .simp
   grind[df,pT]
theorem ak5(n:Int):Ds F.BE [I n] (B (n !=0)):=by
 apply alg;simp[BE]
 grind[fp]
theorem ak4(hr:RW r<4611686018427387904):Ds F.BF [aj di r] (I (o8 r)):=by apply alf;simp[BF];refine cd (VP r hr λn _=>ak5 n) ?_;exact df rfl
theorem aoy{g:FuncId}{cs:bq}{p:aw->Bool}(hs:∀x:aw,bY [] ([aj di x]++cs)=Wf ([aj di x]++cs,[]))(hc:bY [] cs=Wf (cs,[]))(l:cN)(hN:RW l<1000000)(hp:∀x∈l,CP Y g ([aj di x]++cs) (B (p x))):
  Ds F.Al [bf l,.fn g [] cs] (B (l.any p)):=by
 apply ae6;simp[Al];refine cd (v:=I (fL p l)) (aeX (HS (f:=row) (fs:=[]) (cs:=cs) l aa hs hp)) ?_ ?_
 .simp;have:=DR p l;have e:decide (0<=fL p l)=l.any p:=by rw[Yh];simpa using this
  simp_all
 simp_all[bY,bQ]
def tE(p:Nat)(r o:aw):Bool:=decide (nth 0 o p<0)||decide (nth 0 o p≥nth 0 r p)
theorem acr{p:Nat}{o:aw}(hr:p<RW r)(ho:p<RW o):Ds F.wK [aj di o,.dptr [.int .i64 p] 0,.dptr [row r] 0] (B (tE p r o)):=by
 apply ali;simp only[wK];have d1:∀h:Hp,ld1 h (.dptr [.int .i64 (p:Int)] 0)=Wf (I p):=λh=>rfl
 have d2:∀h:Hp,ld1 h (.dptr [row r] 0)=Wf (aj di r):=λh=>rfl
 have i1:bC [] 1 (aj di o) (I p)=Wf (.dptr (o.map di) p):=sQ di o [] rfl ho;have i2:ld1 [] (.dptr (o.map di) p)=Wf (I (nth 0 o p)):=mZ di 0 o [] ho;have i3:bC [] 1 (aj di r) (I p)=Wf (.dptr (r.map di) p):=sQ di r [] rfl hr;have i4:ld1 [] (.dptr (r.map di) p)=Wf (I (nth 0 r p)):=mZ di 0 r [] hr;by_cases h:nth 0 o p<0
 .simp[d1,d2,i1,i2,i3,i4,h]
  grind[fp,tE]
 .simp[d1,d2,i1,i2,i3,i4,h]
  grind[fp,tE]
def uA:Int->cN->cN->Bool
 |_,_,[]=>Th
 |before,done,r::q=>if o8 r<=before∨nth 0 r (o8 r).toNat<0 then SM else if done.any (tE (o8 r).toNat r)=Th then SM else uA (o8 r) (done++[r]) q
theorem MY{m:cN}{c:Nat}(hm:RW m<1000000)(hc:c<1000000)(hr:∀r∈m,RW r=c)(K:KL):∀(q a:cN)(b:Int),-1<=b->m=a++q->(uA b a q=Th->∀h,K (.exit 0) [] h)->(uA b a q=SM->∀h,K .ret [B SM] h) ->
  lp (HZ DA (bf m) (bf m) (I (RW m))) [0,1] [ah,ah] [I b,I (RW a)] [ah,ah] K
 | [],a,b,hb,e,h0,h1=>by
  simp[Zo]at e;subst e;apply aL;have PJ:¬((RW m:Int)<(RW m:Int)):=aa;simp only[HZ];simp[PJ];exact h0 rfl _
 | r::q,a,b,hb,e,h0,h1=>by
  apply aL;have PJ:((RW a:Int)<(RW m:Int)):=by rw[e];simp;omega
  have hl:RW a<RW m:=aa;have hrm:r∈m:=by rw[e];simp
  have hrl:RW r=c:=hr r hrm;have i1:∀h:Hp,bC h 1 (bf m) (I (RW a))=Wf (.dptr (m.map row) (RW a)):=λh=>by simp_all
  have i2:∀h:Hp,ld1 h (.dptr (m.map row) (RW a))=Wf (aj di r):=λh=>by
   rw[pq row m _ hl];simp only[e,Zd (Z8 _),Y5,Y2];rfl
  have hp:=ahJ r;simp only[HZ];have s1:st [(1,Bk.vars [V.d aW]),(0,Bk.none)] 1 (V.ptr 0 1 0 1) (aj di r)=Wf [(1,.vars [aj di r]),ah]:=by simp[st,jk,aH,bP,okV,aj]
  have g1:∀x:Nat×Bk,ld1 [(1,.vars [aj di r]),x] (V.ptr 0 1 0 1)=Wf (aj di r):=λx=>by rfl
  simp[PJ,i1,i2,s1,g1];refine cd (ak4 (r:=r) aa) ?_;have s2:∀z:Int,st [(1,.vars [aj di r]),(1,Bk.vars [V.d (D.int .i64 0)])] 1 (V.ptr 1 1 0 1) (I z)=Wf [(1,.vars [aj di r]),(1,.vars [I z])]:=λz=>by rfl
  have g2:∀(z:Int)(x:Nat×Bk),ld1 [x,(1,.vars [I z])] (V.ptr 1 1 0 1)=Wf (I z):=λz x=>by rfl
  simp only[uA]at h0 h1;simp[s2,g2];by_cases c1:o8 r<=b
  .rw[ip (.inl c1)]at h0 h1;simp[c1,s2,g2]
   grind
  .have⟨p,hpp⟩:∃p:Nat,o8 r=p:=⟨(o8 r).toNat,aa⟩;have hpr:p<RW r:=aa;rw[hpp]at h0 h1 c1 ⊢;rw[Int.toNat_natCast]at h0 h1;have i3:∀h:Hp,bC h 1 (aj di r) (I p)=Wf (.dptr (r.map di) p):=λh=>sQ di r h rfl hpr
   have i4:∀h:Hp,ld1 h (.dptr (r.map di) p)=Wf (I (nth 0 r p)):=λh=>mZ di 0 r h hpr
   by_cases c2:nth 0 r p<0
   .rw[ip (.inr c2)]at h0 h1;simp(disch:=omega) [c1,c2,s2,g2,g1,i3,i4]
    grind
   .rw[iN (by simp only[not_or];exact⟨c1,c2⟩)]at h0 h1
    have sl:∀h:Hp,gU h 1 (bf m) Vc (Wf (I (RW a)))=Wf (bf a):=λh=>by
     have:=QW row m (h:=h) (i:=RW a) (j:=RW a) aa rfl aa
     grind
    simp(disch:=omega) [c1,c2,s2,g2,g1,i3,i4,sl];have hct:=aoy (g:=F.wK) (cs:=[.dptr [.int .i64 p] 0,.dptr [row r] 0]) (p:=tE p r) (λx=>by rfl) aM a aa λo ho=>acr hpr ae
    refine xa (ds:=[bf a,.fn F.wK [] [.dptr [.int .i64 p] 0,.dptr [row r] 0]]) (h':=[(1,Bk.data 1 [row r] SM Th),(1,Bk.data 1 [.int .i64 p] SM Th)]) ?_ hct ?_
    .rfl
    .rw[show(if fk (B (a.any (tE p r)))=Th then[(1,Bk.vars [aj di r]),(1,Bk.vars [I (p:Int)])]else[(1,Bk.data 1 [row r] SM Th),(1,Bk.data 1 [.int .i64 p] SM Th)])=[(1,Bk.vars [aj di r]),(1,Bk.vars [I (p:Int)])]from rfl];by_cases c3:a.any (tE p r)=Th
     .rw[ip c3]at h0 h1;simp[c3]
      grind
     .rw[iN c3]at h0 h1;have c3':a.any (tE p r)=SM:=by simpa using c3
      have ih:=MY hm hc hr K q (a++[r]) p aa (by simp[e]) h0 h1;have e2:(RW (a++[r]):Int)=(RW a:Int)+1:=ac;rw[e2]at ih;simp(disch:=omega) [c3',g2];trivial
theorem Qi{c:Nat}:∀{m:cN},rS c m=0->∀r∈m,RW r=c∧RW r<=12
 |[],_,r,hr=>by simp at hr
 | x::m,h,r,hr=>by
  simp only[rS]at h;split at h
  .omega
  .split at h
   .omega
   .split at h
    .omega
    .rename_i a1 a2 _;rcases Zy.1 hr with rfl|hr
     .exact⟨aa,aa⟩
     .exact Qi h r hr
theorem S9(b:Bool)(z:Int)(h:Hp):out (.tup [B b,I z]) (.tup [B b,I z]) h:=⟨h,aM⟩
def qX(m:cN):Bool:=decide (pT m=0)&&uA (-1) [] m
theorem akM{m:cN}(hm:RW m<1000000)(hr:∀r∈m,RW r<1000000):Ds F.BI [bf m] (.tup [B (qX m),I (pT m)]):=by
 apply alj;simp only[BI];simp;refine cd (adS hm hr) ?_ aM;by_cases h:pT m=0
 .have h12:¬12<RW m:=λg=>by grind[pT]
  have hl:=h;simp[pT,iN h12]at hl;have hc:=Qi hl
  have hcl:m≠[]->RW (nth [] m 0)<1000000:=λe=>by
   grind[Xn,gN]
  have hfo:Ds F.BH [bf m] (B (uA (-1) [] m)):=by
   apply alh;simp only[BH];have l1:bh (bf m)=Wf (I (RW m)):=rfl;simp[l1];by_cases e:m=[]
   .subst e;refine lo (MY (c:=0) hm aa ac _ [] [] (-1) aa rfl (λe h=>?_) (λe h=>?_))
    .simp
     simp_all
    .cases e
   .refine lo (MY hm (hcl e) (λr hr=>(hc r hr).1) _ m [] (-1) aa rfl (λe h=>?_) (λe h=>?_))
    .simp
     simp_all
    .simp
     simp_all
  simp[h];refine cd hfo ?_ aM;have e:qX m=uA (-1) [] m:=by simp[qX,h]
  grind[S9]
 .simp[h];have e:qX m=SM:=by simp[qX,h]
  grind[S9]
def sO(c:Int)(m:cN):Int:=if qV c m≠0 then qV c m else if qX m=Th then 0 else 7
theorem Mw{c:Int}{m:cN}(hm:RW m<1000000)(hr:∀r∈m,RW r<1000000):Ds F.wB [iI c m] (I (sO c m)):=by
 apply akn;simp only[wB,iI];simp;refine cd (Vh hm hr) ?_ aM;by_cases h:qV c m=0
 .simp[h];refine cd (akM hm hr) ?_ aM;by_cases h2:pT m=0
  .by_cases h3:qX m=Th
   .simp[h2,h3]
    grind[df,sO]
   .have h3':qX m=SM:=by simpa using h3
    simp[h2,h3']
    grind[df,sO]
  .have h3':qX m=SM:=by simp[qX,h2]
   simp[h2,h3']
   grind[df,sO]
 .simp[h]
  grind[df,sO]
def po(n:Int)(p:Mz):Hp:=[(1,.vars [I 0,jP]),(1,.vars [I n,(bz 2).v (RW p) (p.map row)]),(bz 2).b (RW p) (p.map row)]
theorem Uo{m:Mz}{n:Int}(hm:RW m<1000)(hr:∀r∈m,RW r<1000000)(hz:∀r∈m,∀z∈r,-1000000000<=z∧z<=1000000000)(h0:Hp)(K:KL):∀(q p:Mz),m=p++q->K (.exit 0) [] (po n m) ->
  lp (Hu DA (.ptr 0 1 0 2) (.ptr 1 1 0 2) (kY m) (I (RW m))) [] h0 [I (RW p)] (po n p) K
 | [],p,e,hK=>by
  simp only[Zo]at e;subst e;apply aL;have PJ:¬((RW m:Int)<(RW m:Int)):=aa;simp only[Hu];simp[PJ];exact hK
 | r::q,p,e,hK=>by
  apply aL;have PJ:((RW p:Int)<(RW m:Int)):=by rw[e];simp;omega
  have hrm:r∈m:=by rw[e];simp
  have DP:RW p<RW m:=aa;have⟨H,hH⟩:=bD (po n p);have i1:bC H 1 (kY m) (I (RW p))=Wf (.dptr (m.map j6) (RW p)):=by rw[e];exact VC p r q H
  have i2:ld1 H (.dptr (m.map j6) (RW p))=Wf (aj sI r):=by rw[e];exact Va p r q H
  rw[<-hH];simp only[Hu];simp[PJ,i1,i2];refine cd (ajb (hz r hrm) (hr r hrm)) ?_;have f1:ld1 H (.ptr 1 1 1 2)=Wf ((bz 2).v (RW p) (p.map row)):=by rw[hH];simp[ld1,po,aH]
  have hli:cI 1 [aW] [(0,aj di r)] H=Wf ([row r],H):=by simp[cI,dI,d8,dX,norm,aj,row]
  simp[f1,hli];refine kM (bz 2) (Nd:=24) (k:=1) (cs:=[row r]) aa (by rw[hH];rfl) (by simp[bz]) aM rfl ae aa (by simp[bz]) ?_;have hs:H.set (bz 2).s ((bz 2).b (RW p+1) (p.map row++[row r]))=[(1,.vars [I 0,jP]),(1,.vars [I n,(bz 2).v (RW p) (p.map row)]),(bz 2).b (RW p+1) (p.map row++[row r])]:=by rw[hH];rfl
  have DB:st [(1,.vars [I 0,jP]),(1,.vars [I n,(bz 2).v (RW p) (p.map row)]),(bz 2).b (RW p+1) (p.map row++[row r])] 1 (.ptr 1 1 1 2) ((bz 2).v (RW p+1) (p.map row++[row r]))=Wf (po n (p++[r])):=by
   simp[st,jk,aH,bP,okV,po,Acc.v,Acc.b]
  have ih:=Uo hm hr hz h0 K q (p++[r]) (by simp[e]) hK;have e2:(RW (p++[r]):Int)=(RW p:Int)+1:=ac;rw[e2]at ih;rw[hs];simp only[Acc.v,Acc.b]at DB ⊢;simp(disch:=try exact cC)[DB]
  simp_all[jX,po]
theorem LY{n:Int}(hm:RW m<1000)(hr:∀r∈m,RW r<1000000)(hz:∀r∈m,∀z∈r,-1000000000<=z∧z<=1000000000):Ds F.wy [kY m,I n] (.tup [iI n m,I 0]):=by
 apply ajX;simp only[wy];have l1:bh (kY m)=Wf (I (RW m)):=rfl;simp[l1];refine lo (Uo hm hr hz _ _ m [] rfl ?_);have g1:aG (po n m) 2 (.ptr 1 1 0 2)=Wf (.agg [I n,(bz 2).v (RW m) (m.map row)]):=by simp[aG,po,aH]
 have okv:okV ((bz 2).v (RW m) (m.map row))=Th:=by cases m<;>rfl
 have s1:st (po n m) 2 (.ptr 0 1 0 2) (.agg [I n,(bz 2).v (RW m) (m.map row)])=Wf [(1,.vars [I n,(bz 2).v (RW m) (m.map row)]),(1,.vars [I n,(bz 2).v (RW m) (m.map row)]),(bz 2).b (RW m) (m.map row)]:=by
  simp[st,jk,po,aH,bP,okv]
 have g2:aG [(1,.vars [I n,(bz 2).v (RW m) (m.map row)]),(1,.vars [I n,(bz 2).v (RW m) (m.map row)]),(bz 2).b (RW m) (m.map row)] 2 (.ptr 0 1 0 2)=Wf (.agg [I n,(bz 2).v (RW m) (m.map row)]):=by simp[aG,aH]
 show(bnd (aG (po n m) 2 (.ptr 1 1 0 2)) λv7=>aS (po n m) 2 (.ptr 0 1 0 2) v7 λx h=>bnd (aG h 2 (.ptr 0 1 0 2)) λv9=>out (.tup [iI n m,I 0]) (.tup [v9,.d (.int .i64 0)]) h)
 simp only[g1,bnd,aS,s1,g2];have⟨h',e1,_⟩:=mO (bz 2) (L:=RW m) (cells:=m.map row) (h:=[(1,.vars [I n,(bz 2).v (RW m) (m.map row)]),(1,.vars [I n,(bz 2).v (RW m) (m.map row)]),(bz 2).b (RW m) (m.map row)]) rfl (by simp[bz]);refine⟨h',?_⟩
 simp_all[bQ,bY,iI,aj]
structure jG(n:Nat)(m:Mz):Prop where
 n0:0<n
 n12:n<=12
 ml:RW m<=12
 rl:∀r∈m,RW r=n
 sm:∀r∈m,∀z∈r,-1000000000<=z∧z<=1000000000
theorem Vn{f:Nat}{z:Mz}(hB:Bd<=100000)(hl:sO n m=0)(ho:jG n m)(hk:k8 Bd f n m=Wf z)(hz:jG n z):Ds F.yJ [iI n m] (.tup [iI n z,I 0]):=by
 apply ako;simp only[yJ,iI];simp;have hrl:∀r∈m,RW r<1000000:=λr hr=>by rw[ho.rl r hr];have:=ho.n12;omega
 have hml:=ho.ml;have hn:=ho.n12;refine cd (args:=[iI n m]) (Mw aa hrl) ?_ aM;have c1:=Uy (m:=m) ho.ml hrl (λr hr z hz=>by have:=ho.sm r hr z hz;omega);have c2:=MB (m:=m) (n:=n) ho.n0 aa ho.rl aa hB hk;have c3:=LY (m:=z) (n:=n) (by grind[jG.ml]) (λr hr=>by grind[jG.rl]) hz.sm;simp[hl];refine cd c1 ?_ aM;simp
 refine cd c2 ?_ aM;simp;refine cd c3 ?_ aM;have ok1:okV (bf z)=Th:=rfl;simp[iI,ok1];exact⟨_,aM⟩
theorem Uq{f:Nat}{y z:Mz}(hB:Bd<=100000)(hl:sO n m=0)(ho:jG n m)(hk:k8 Bd f n m=Wf y)(hy:∀r∈y,RW r=n)(hyl:RW y<1000)(hk2:k8 Bd f n y=Wf z)(hz:jG n z):Ds F.yH [iI n m] (.tup [iI n z,I 0]):=by
 apply akk;simp only[yH,iI];simp;have hrl:∀r∈m,RW r<1000000:=λr hr=>by rw[ho.rl r hr];have:=ho.n12;omega
 have hml:=ho.ml;have hn:=ho.n12;refine cd (args:=[iI n m]) (Mw aa hrl) ?_ aM;have c1:=Uy (m:=m) ho.ml hrl (λr hr z hz=>by have:=ho.sm r hr z hz;omega);have c2:=MB (m:=m) (n:=n) ho.n0 aa ho.rl aa hB hk;have c4:=MB (m:=y) (n:=n) ho.n0 aa hy hyl hB hk2
 have c3:=LY (m:=z) (n:=n) (by grind[jG.ml]) (λr hr=>by grind[jG.rl]) hz.sm;simp[hl];refine cd c1 ?_ aM;simp;refine cd c2 ?_ aM;simp;refine cd c4 ?_ aM;simp;refine cd c3 ?_ aM;have ok1:okV (bf z)=Th:=rfl;simp[iI,ok1];exact⟨_,aM⟩
theorem xd{o:Option V}{v:V}{k:V->Prop}(h:o=Wf v)(hk:k v):bnd o k:=by simp_all
def gM(p:aw)(c w:Mz):V:=.agg [aj di p,bf c,bf w]
structure rJ(p:aw)(c w:Mz):Prop where
 pr:ef p=0
 lc:jG (RW p) c
 lw:jG (RW p) w
 ch:sO (RW p) c=0
 k1:∃B f,B<=100000∧k8 B f (RW p) c=Wf w∧k8 B f (RW p) w=Wf c
theorem adi(x y:aw)(hx:RW x<1000000)(hy:RW y<1000000):Ds F.xt [.d (row x),.d (row y)] (B (decide (x=y))):=by apply adM;simp only[xt];simp;refine cd (args:=[aj di x,aj di y]) (XZ aa aa) ?_ aM;simp
theorem adh{m':Mz}(hm:RW m<1000000)(hm':RW m'<1000000)(h2:∀r∈m,RW r<1000000)(h3:∀r∈m',RW r<1000000):Ds F.zW [bf m,bf m'] (B (decide (m=m'))):=by apply adL;simp only[zW];simp;refine cd (YC (g:=F.xt) adi hm hm' h2 h3) ?_ aM;simp
theorem jG.rl6(h:jG n m):∀r∈m,RW r<1000000:=λr hr=>by rw[h.rl r hr];have:=h.n12;omega
theorem adt{p:aw}{c w w':Mz}(h:rJ p c w)(h1:RW w'<1000000)(h2:∀r∈w',RW r<1000000):Ds F.tG [gM p c w'] (I (if w=w' then 0 else 14)):=by
 apply adR;simp only[tG,gM];have hn:=h.lc.n12;have hcl:=h.lc.ml;have hwl:=h.lw.ml;have a1:=AR (p:=p) aa;rw[h.pr]at a1;have a2:=Mw (c:=RW p) (m:=c) aa h.lc.rl6;rw[h.ch]at a2;have⟨Bd,f,hB,k1,k2⟩:=h.k1;have a3:=Uq hB h.ch h.lc k1 h.lw.rl aa k2 h.lc;have a4:=Vn hB h.ch h.lc k1 h.lw
 have a5:Ds F.yI [iI (RW p) c,iI (RW p) c] (B Th):=by
  have:=ajB (c:=RW p) (c':=RW p) (m:=c) (m':=c) aa aa h.lc.rl6 h.lc.rl6;simpa using this
 have a6:=adh (m:=w) (m':=w') aa h1 h.lw.rl6 h2;have l1:bh (aj di p)=Wf (I (RW p)):=rfl;simp;refine cd a1 ?_;have ok1:∀m:Mz,okV (aj row m)=Th:=λ_=>rfl
 simp[iI,bf]at a2 a3 a4 a5 a6;simp[l1,ok1];refine cd a2 ?_ aM;simp;refine cd a3 ?_ aM;simp[ok1];refine cd a5 ?_ aM;simp;refine cd a4 ?_ aM;simp[ok1];refine cd (args:=[aj row w,aj row w']) a6 ?_ aM;by_cases e:w=w'<;>simp[e]
theorem JJ{p:aw}{c w:Mz}(h:rJ p c w):Ds F.tG [gM p c w] (I 0):=by simpa using adt h (by have:=h.lw.ml;omega) h.lw.rl6
def rT(n:Nat):Mz->Int
 |[]=>0
 |r::q=>if kt r≠0 then kt r else if RW r≠n then 5 else rT n q
variable{p:aw}{c w:Mz}
theorem Qk{m:Mz}(hm:RW m<1000000)(hr:∀r∈m,RW r<1000000)(e:Nat)(h0:Hp)(K:KL):∀(q a:Mz),m=a++q->(rT (RW p) q=0->K (.exit 0) [] [(e,.vars [aj di p,bf c,bf w])])->(rT (RW p) q≠0->K .ret [I (rT (RW p) q)] [(e,.vars [aj di p,bf c,bf w])]) ->
  lp (E7 DA (.ptr 0 e 0 3) (bf m) (I (RW m))) [] h0 [I (RW a)] [(e,.vars [aj di p,bf c,bf w])] K
 | [],a,e1,h1,h2=>by
  simp[Zo]at e1;subst e1;apply aL;have PJ:¬((RW m:Int)<(RW m:Int)):=aa;simp only[E7];simp[PJ];exact h1 rfl
 | r::q,a,e1,h1,h2=>by
  apply aL;have PJ:((RW a:Int)<(RW m:Int)):=by rw[e1];simp;omega
  have hl:RW a<RW m:=aa;have i1:∀h:Hp,bC h 1 (bf m) (I (RW a))=Wf (.dptr (m.map row) (RW a)):=λh=>by simp_all
  have i2:∀h:Hp,ld1 h (.dptr (m.map row) (RW a))=Wf (aj di r):=λh=>by
   rw[pq row m _ hl];simp only[e1,Zd (Z8 _),Y5,Y2];rfl
  have l1:bh (aj di r)=Wf (I (RW r)):=rfl;have l2:bh (aj di p)=Wf (I (RW p)):=rfl;have g1:ld1 [(e,.vars [aj di p,bf c,bf w])] (.ptr 0 e 0 3)=Wf (aj di p):=by simp[ld1,aH]
  simp only[E7];simp[PJ,i1,i2];refine cd (SG ae) ?_;simp only[rT]at h1 h2;by_cases c1:kt r=0
  .rw[iN (by simp[c1])]at h1 h2;by_cases c2:RW r=RW p
   .rw[iN (by simp[c2])]at h1 h2;have c2':(RW r:Int)=(RW p:Int):=aa;simp(disch:=omega) [c1,l1,l2,g1,c2'];rw[jX];have ih:=Qk hm hr e h0 K q (a++[r]) ae h1 h2
    simp_all
   .rw[ip c2]at h1 h2;have c2':¬(RW r:Int)=(RW p:Int):=aa
    simp_all
  simp_all
theorem Qj(h:rJ p c w)(hm:RW m<1000000)(hr:∀r∈m,RW r<1000000):Ds F.xu [gM p c w,bf m] (I (rT (RW p) m)):=by
 apply adN;simp only[xu,gM];simp;refine cd (args:=[gM p c w]) (JJ h) ?_ aM;have l1:bh (bf m)=Wf (I (RW m)):=rfl;simp[l1];refine lo (Qk hm hr 1 _ _ m [] rfl (λe=>?_) (λe=>?_))
 .simp_all
 simp
def md:aw->aw->Int
 |x::xs,y::ys=>x*y+md xs ys
 |_,_=>0
def lG(l:aw):Prop:=∀x∈l,-1000000000<=x∧x<=1000000000
theorem Qd{x v:aw}(hl:RW v=RW x)(hn:RW x<=64)(hx:lG x)(hv:lG v)(h0 h:Hp)(K:KL):∀(q qv a av:aw)(s:Int),x=a++q->v=av++qv->RW av=RW a->s.natAbs<=1000000000000000000*RW a ->
  K (.exit 2) [S (itoa (s+md q qv))] h ->
  lp (E5 DA (aj di v) (aj di x) (I (RW x))) [] h0 [S (itoa s),I (RW a)] h K
 | [],qv,a,av,s,e1,e2,e3,hs,hK=>by
  simp[Zo]at e1;subst e1;apply aL;have PJ:¬((RW x:Int)<(RW x:Int)):=aa
  simp_all[E5,md]
 | b::q,[],a,av,s,e1,e2,e3,hs,hK=>by
  grind
 | b::q,d::qv,a,av,s,e1,e2,e3,hs,hK=>by
  apply aL;have PJ:((RW a:Int)<(RW x:Int)):=by rw[e1];simp;omega
  have i1:bC h 1 (aj di x) (I (RW a))=Wf (.dptr (x.map di) (RW a)):=by rw[e1];exact yK di a b q _ _
  have i2:ld1 h (.dptr (x.map di) (RW a))=Wf (I b):=by
   rw[pq di x _ aa];simp only[e1,Zd (Z8 _),Y5,Y2];rfl
  have i3:bC h 1 (aj di v) (I (RW a))=Wf (.dptr (v.map di) (RW a)):=by rw[e2,<-e3];exact yK di av d qv _ _
  have i4:ld1 h (.dptr (v.map di) (RW a))=Wf (I d):=by
   rw[pq di v _ aa];simp only[e2,<-e3,Zd (Z8 _),Y5,Y2];rfl
  have hb:=hx b ae;have hd:=hv d ae;have n18:∀z:Int,z.natAbs<10^30->ay z.natAbs<400000:=λz hz=>Zf (eC hz am) am
  have h3:(b*d).natAbs<=1000000000*1000000000:=by
   rw[Zl];exact Zr aa aa
  simp only[E5];simp[PJ,i1,i2];refine cd (kw (z:=b) aa aa) ?_;simp[i3,i4];refine cd (kw (z:=d) aa aa) ?_;simp;refine cd (xj (z:=b) (w:=d) (n18 _ aa) (n18 _ aa)) ?_;simp;refine cd (zI (z:=s) (w:=b*d) (by have:=n18 s aa;omega) (by have:=n18 (b*d) aa;omega)) ?_
  have ih:=Qd hl hn hx hv h0 h K q qv (a++[b]) (av++[d]) (s+b*d) ae ae ae ae (by
   have:s+b*d+md q qv=s+md (b::q) (d::qv):=by simp[md];omega
   grind)
  have e4:(RW (a++[b]):Int)=(RW a:Int)+1:=ac;rw[e4]at ih;simp(disch:=omega) []
  grind[jX,lo]
def dO(w:Mz)(x:aw):aw:=w.map λv=>md x v
theorem Qe{x:aw}{w:Mz}(hw:RW w<1000)(hl:∀v∈w,RW v=RW x)(hn:RW x<=64)(hx:lG x)(hv:∀v∈w,lG v)(b0:Nat×Bk)(h0:Hp)(K:KL):∀(q a:Mz),w=a++q ->
  K (.exit 0) [(bz 1).v (RW w) ((dO w x).map sI)] [b0,(bz 1).b (RW w) ((dO w x).map sI)] ->
  lp (E6 DA (aj di x) (bf w) (I (RW w))) [] h0 [(bz 1).v (RW a) ((dO a x).map sI),I (RW a)] [b0,(bz 1).b (RW a) ((dO a x).map sI)] K
 | [],a,e,hK=>by
  simp[Zo]at e;subst e;apply aL;have PJ:¬((RW w:Int)<(RW w:Int)):=aa
  simp_all[E6]
 | v::q,a,e,hK=>by
  apply aL;have PJ:((RW a:Int)<(RW w:Int)):=by rw[e];simp;omega
  have DQ:RW a<RW w:=aa;have hvm:v∈w:=by rw[e];simp
  have i1:∀h:Hp,bC h 1 (bf w) (I (RW a))=Wf (.dptr (w.map row) (RW a)):=λh=>by simp_all
  have i2:∀h:Hp,ld1 h (.dptr (w.map row) (RW a))=Wf (aj di v):=λh=>by
   rw[pq row w _ DQ];simp only[e,Zd (Z8 _),Y5,Y2];rfl
  have l1:bh (aj di x)=Wf (I (RW x)):=rfl;have⟨H,hH⟩:∃H:Hp,H=[b0,(bz 1).b (RW a) ((dO a x).map sI)]:=⟨_,rfl⟩;rw[<-hH];simp only[E6];simp[PJ,i1,i2,l1]
  have e48:V.d (D.str [48])=S (itoa 0):=by
   have:itoa 0=[48]:=dw;rw[this]
  rw[e48];refine lo (Qd (hl v hvm) hn hx (hv v hvm) _ H _ x v [] [] 0 rfl rfl rfl ac ?_);have hli:cI 1 [.str []] [(0,S (itoa (md x v)))] H=Wf ([sI (md x v)],H):=by simp[cI,dI,d8,dX,norm,sI]
  simp[hli];have ez:dO (a++[v]) x=dO a x++[md x v]:=by simp[dO]
  refine kM (bz 1) (Nd:=16) (k:=1) (cs:=[sI (md x v)]) aa (by rw[hH];rfl) (by simp[bz,dO]) aM rfl ae aa (by simp[bz]) ?_;have hs:H.set (bz 1).s ((bz 1).b (RW a+1) ((dO a x).map sI++[sI (md x v)]))=[b0,(bz 1).b (RW a+1) ((dO a x).map sI++[sI (md x v)])]:=by rw[hH];rfl
  rw[hs];have ih:=Qe hw hl hn hx hv b0 h0 K q (a++[v]) (by simp[e]) hK;have e4:(RW (a++[v]):Int)=(RW a:Int)+1:=ac;rw[e4,ez,Yn,List.length_append]at ih;simp(disch:=omega) []
  simp_all[jX]
theorem Qc(h:rJ p c w){x:aw}(hl:RW x=RW p)(hx:lG x):Ds F.xr [gM p c w,aj di x] (aj sI (dO w x)):=by
 apply adK;simp only[xr,gM];have l1:bh (bf w)=Wf (I (RW w)):=rfl;have hn:=h.lc.n12;have hwl:=h.lw.ml;simp[l1];refine lo (Qe aa (λv hv=>by rw[h.lw.rl v hv,hl]) aa hx (λv hv=>h.lw.sm v hv) _ _ _ w [] rfl ?_);simp
 have⟨h',e1,_⟩:=mO (bz 1) (L:=RW w) (cells:=(dO w x).map sI) (h:=[(1,.vars [aj di p,bf c,bf w]),(bz 1).b (RW w) ((dO w x).map sI)]) rfl (by simp[bz,dO]);refine⟨h',?_⟩
 grind[aj,dO]
theorem abz{l:aw}(hn:RW l<1000)(hz:lG l)(b0:Nat×Bk)(h0:Hp)(K:KL):∀(q a:aw),l=a++q->K (.exit 0) [(bz 1).v (RW l) (l.map di)] [b0,(bz 1).b (RW l) (l.map di)] ->
  lp (E8 DA (aj sI l) (I (RW l))) [] h0 [(bz 1).v (RW a) (a.map di),I (RW a)] [b0,(bz 1).b (RW a) (a.map di)] K
 | [],a,e,hK=>by
  simp[Zo]at e;subst e;apply aL;have PJ:¬((RW l:Int)<(RW l:Int)):=aa
  simp_all[E8]
 | z::q,a,e,hK=>by
  apply aL;have PJ:((RW a:Int)<(RW l:Int)):=by rw[e];simp;omega
  have hzb:=hz z ae;have i1:∀h:Hp,bC h 1 (aj sI l) (I (RW a))=Wf (.dptr (l.map sI) (RW a)):=λh=>by simp_all
  have i2:∀h:Hp,ld1 h (.dptr (l.map sI) (RW a))=Wf (S (itoa z)):=λh=>by
   grind[pq,sI]
  have⟨H,hH⟩:∃H:Hp,H=[b0,(bz 1).b (RW a) (a.map di)]:=⟨_,rfl⟩;rw[<-hH];have g1:¬(z>1000000000):=aa;have g2:¬(z < -1000000000):=aa;have hli:cI 1 [.int .i64 0] [(0,I z)] H=Wf ([di z],H):=by simp[cI,dI,d8,dX,norm];rfl
  simp only[E8];simp[PJ,i1,i2];refine cd (Kd (z:=z) aa) ?_;simp[g1,g2,hli];refine kM (bz 1) (Nd:=8) (k:=1) (cs:=[di z]) aa (by rw[hH];rfl) (by simp[bz]) aM rfl ae aa (by simp[bz]) ?_;have hs:H.set (bz 1).s ((bz 1).b (RW a+1) (a.map di++[di z]))=[b0,(bz 1).b (RW a+1) (a.map di++[di z])]:=by rw[hH];rfl
  rw[hs];have ih:=abz hn hz b0 h0 K q (a++[z]) (by simp[e]) hK;have e4:(RW (a++[z]):Int)=(RW a:Int)+1:=ac;rw[e4,Yn,List.length_append]at ih;simp(disch:=omega) []
  simp_all[jX]
theorem aqo(h:rJ p c w){x:aw}(hl:RW x=RW p)(hx:lG x)(hr:kt x=0)(hz:lG (dO w x)):Ds F.zX [gM p c w,aj di x] (.tup [aj di (dO w x),I 0]):=by
 apply adQ;simp only[zX,gM];have hn:=h.lc.n12;have hwl:=h.lw.ml;have hli:cI 1 [aW] [(0,aj di x)] [(1,Bk.vars [aj di p,bf c,bf w]),(0,Bk.none)]=Wf ([row x],[(1,Bk.vars [aj di p,bf c,bf w]),(0,Bk.none)]):=by simp[cI,dI,d8,dX,norm,aj,row]
 have tb:rT (RW p) [x]=0:=by simp[rT,hr,hl]
 have b1:=Qj h (m:=[x]) ac ae;rw[tb]at b1;simp[hli];refine cd (args:=[gM p c w,bf [x]]) b1 ?_ aM;simp;refine cd (args:=[gM p c w,aj di x]) (Qc h hl hx) ?_ aM;have l1:bh (aj sI (dO w x))=Wf (I (RW (dO w x))):=rfl;simp[l1];refine lo (abz (by grind[dO]) hz _ _ _ (dO w x) [] rfl ?_);simp
 have⟨h',e1,_⟩:=mO (bz 1) (L:=RW (dO w x)) (cells:=(dO w x).map di) (h:=[(1,.vars [aj di p,bf c,bf w]),(bz 1).b (RW (dO w x)) ((dO w x).map di)]) rfl (by simp[bz]);refine⟨h',?_⟩;simp only[bQ,bY,e1,norm];rfl
theorem ahP{d:Int}(hd:d≠0)(h1 : -9223372036854775808<z)(h2:z<9223372036854775808)(h3 : -9223372036854775808<d)(h4:d<9223372036854775808):Ds F.xU [I z,I d] (.agg (qT (ju z d))):=by apply agw;have fo:Ds F.sY [I z,I d] (.tup [.agg [S (itoa (ju z d).1),S (aA (ju z d).2)],I 0]):=M7 hd h1 h2 h3 h4;simp[xU];refine cd fo ?_;simp;exact nD rfl rfl
def za:aw:=[1,2,3,4,6,12]
def qq(b:Nat):Int:=za.getD (b%6) 1
theorem NF(b:Nat):qq b=1∨qq b=2∨qq b=3∨qq b=4∨qq b=6∨qq b=12:=by unfold qq;have h:b%6<6:=Y7 _ am;generalize b%6=j at *;have:j=0∨j=1∨j=2∨j=3∨j=4∨j=5:=aa;rcases this with rfl|rfl|rfl|rfl|rfl|rfl<;>simp[za]
def ib(a:Int)(b:Nat):Q:=ju (a.tmod 41) (qq b)
theorem WY{a:Int}{b:Nat}(ha : -128<=a∧a<=127)(hb:b<256):Ds F.vM [.agg [.d (.int .i8 a),.d (.int .u8 b)]] (.agg (qT (ib a b))):=by
 apply agy;have r1 : -41<a.tmod 41:=Int.lt_tmod_of_pos a am;have r2:=Int.tmod_lt_of_pos a (b:=41) am;have hd:=NF b;have pt:Ds F.xU [I (a.tmod 41),I (qq b)] (.agg [S (itoa (ib a b).1),S (aA (ib a b).2)]):=ahP (z:=a.tmod 41) (d:=qq b) aa aa aa aa aa
 have hkk:b%6<6:=Y7 _ am;have i1:=λH:Hp=>mH di za H (k:=.u8) (i:=((b%6:Nat):Int)) aa (by show((b%6:Nat):Int)<6;omega)
 have i2:=λH:Hp=>mZ di 1 za H (j:=b%6) hkk
 have hn:nth 1 za (b%6)=qq b:=rfl
 have m1:aD .rem (.d (.int .u8 (b:Int))) (.d (.int .u8 6))=Wf (.d (.int .u8 ((b%6:Nat):Int))):=by
  rw[aaU aa,Zt aa];congr 3
 rw[hn]at i2;simp only[Int.toNat_natCast]at i1;have⟨c,hc⟩:=bD (za.map di)
 have i1':∀H:Hp,bC H 1 (.d (.sl 6 c)) (.d (.int .u8 ((b%6:Nat):Int)))=Wf (.dptr c (b%6)):=λH=>by
  have:=i1 H;rw[<-hc]at this;rw[<-this,hc];rfl
 have i2':∀H:Hp,ld1 H (.dptr c (b%6))=Wf (I (qq b)):=λH=>by rw[hc];exact i2 H
 have hl6:∀H:Hp,cI 6 [D.int iK.i64 0] [(0,V.d (D.int iK.i64 1)),(1,V.d (D.int iK.i64 2)),(2,V.d (D.int iK.i64 3)),(3,V.d (D.int iK.i64 4)),(4,V.d (D.int iK.i64 6)),(5,V.d (D.int iK.i64 12))] H=Wf (c,H):=λH=>by
  rw[hc];simp[cI,dI,d8,dX,di,za]
 have hm:((b:Int).tmod 6)=(b:Int)%6:=Zt aa;have i1'':∀H:Hp,bC H 1 (.d (.sl 6 c)) (.d (.int .u8 ((b:Int)%6)))=Wf (.dptr c (b%6)):=i1';simp(disch:=try exact cC)[vM,hl6,hm,i1'',i2'];refine cd pt ?_;simp;exact nD rfl rfl
def oi(e:List (Int×Nat)):bq:=e.flatMap λx=>[.d (.int .i8 x.1),.d (.int .u8 x.2)]
def kN:Acc:=⟨2,0,2,.none⟩
def nr(k:Nat)(e:List (Int×Nat)):List Q:=(e.take k).map λx=>ib x.1 x.2
def lC(k:Nat)(e:List (Int×Nat)):bF:=((nr k e).map tx).flatMap bb
def yr(e:List (Int×Nat))(i:Nat):Hp:=[(1,.vars (oi e)),(1,.data 2 [] Th SM),kN.b i (lC i e)]
def sJ(e:List (Int×Nat))(i:Nat):V:=if i=0 then .ref 1 1 0 0 0 0 else kN.v i (lC i e)
theorem Tu:∀e:List (Int×Nat),offB [] (.vars (oi e))=Th
 |[]=>rfl
 | x::e=>by
  have:=Tu e;rw[AY]at this ⊢;simp only[oi,Xy,List.cons_append,List.nil_append,fK,gZ]at this ⊢;simpa[oi]using this
theorem WX(a:Int)(b:Nat):gC (ib a b):=by apply aje;have:=NF b;omega
theorem app0{y:V}{cs:bF}{x0:Nat×Bk}{q:bG}{u:PU q}(hcs:RW cs=2)(hy:∀h,cellsOf h y=Wf (1,cs))(hyn:∀t,y≠.d (.str t))(hq:q (kN.v 1 cs) [x0,(1,.data 2 [] Th SM),kN.b 1 cs]) :
  rh (cV SM 2 2 32 (.ref 1 1 0 0 0 0) y [x0,(1,.data 2 [] Th SM),ah]) q u:=by
 show cV SM 2 2 32 (.ref 1 1 0 0 0 0) y [x0,(1,.data 2 [] Th SM),ah] q
 have e1:cV SM 2 2 32 (.ref 1 1 0 0 0 0) y [x0,(1,.data 2 [] Th SM),ah] q=kK SM 2 2 32 (.ref 1 1 0 0 0 0) 1 cs [x0,(1,.data 2 [] Th SM),ah] q:=by
  unfold cV;split
  .rename_i t;exact absurd rfl (hyn t)
  .rw[hy];simp only[hcs,iT]
 rw[e1];unfold kK;rw[iN am];simp only[aH];simp[hcs,new];simpa[kN,Acc.v,Acc.b,hcs]using hq
theorem ahp(he:RW e=4){x:Int×Nat}(hx:e[j]?=Wf x)(x1 x2:Nat×Bk):
  m5 4 2 (.ptr 0 1 0 8) (I (j:Int))=Wf (.ptr 0 1 (j*2) 8)∧aG [(1,.vars (oi e)),x1,x2] 2 (.ptr 0 1 (j*2) 8)=Wf (.agg [.d (.int .i8 x.1),.d (.int .u8 x.2)]):=by
 match e,he with
 | [a,b,c,d],_=>
  have hj:j<4:=by
   rcases Zi j 4 with h|h
   .exact h
   .rw[List.getElem?_eq_none (by simpa using h)]at hx;cases hx
  have:j=0∨j=1∨j=2∨j=3:=aa;rcases this with rfl|rfl|rfl|rfl<;>simp at hx<;>subst hx<;>exact⟨rfl,rfl⟩
theorem Uk{p:aw}{e:List (Int×Nat)}(he:RW e=4)(hb:∀x∈e,(-128<=x.1∧x.1<=127)∧x.2<256)(hp:RW p<=4)(k:KL)(h0:Hp)(hh:RW h0=3):∀(f i:Nat),i+f=RW p ->
  k (.exit 0) [sJ e (RW p)] (yr e (RW p)) ->
  lp (FU DA (aj di p) (.ptr 0 1 0 8)) [] h0 [sJ e i,I i] (yr e i) k
 | 0,i,hi,hk=>by
  have g:¬(i:Int)<(RW p:Int):=aa;have:i=RW p:=aa;subst this;have l1:bh (aj di p)=Wf (I (RW p)):=rfl;apply aL;simp[FU,l1];exact hk
 | f+1,i,hi,hk=>by
  have g:(i:Int)<(RW p:Int):=aa;have l1:bh (aj di p)=Wf (I (RW p)):=rfl;have ex:∃x,e[i]?=Wf x:=⟨_,List.getElem?_eq_getElem aa⟩;have⟨x,hx⟩:=ex;have⟨⟨b1,b2⟩,b3⟩:=hb x (Ya hx);have⟨pa,pb⟩:=ahp he hx (1,.data 2 [] Th SM) (kN.b i (lC i e))
  have fr:Ds F.vM [.agg [.d (.int .i8 x.1),.d (.int .u8 x.2)]] (.agg (qT (ib x.1 x.2))):=WY ⟨b1,b2⟩ b3;have ih:=Uk he hb hp k h0 hh f (i+1) aa hk;have r4:(i:Int).tmod 4=(i:Int):=Int.tmod_eq_of_lt aa aa
  have es:lC (i+1) e=lC i e++bb (tx (ib x.1 x.2)):=by
   unfold lC nr;rw[Wq,hx];simp
  have lq:∀H,cI 1 [D.str [],D.str []] [(0,.agg (qT (ib x.1 x.2)))] H=Wf (bb (tx (ib x.1 x.2)),H):=λH=>Dw _ H
  have hre:∀y:Hp,RW y=3->dl [] 0 h0 y=y:=λy hy=>x8 0 h0 y aa
  have lce:RW (lC i e)=i*2:=by
   unfold lC;rw[jB bb dZ,List.length_map];simp[nr];omega
  have lt2:RW (bb (tx (ib x.1 x.2)))=2:=dZ _;apply aL;simp[FU,l1,g,r4,yr,pa,pb];refine cd fr ?_ (by simp[bY,bQ]);simp[lq];have off1:offB [] (.data 2 [] Th SM)=Th:=rfl;have off2:∀cs,offB [] (.data 2 cs SM SM)=Th:=λcs=>rfl
  have hpt:=Tu e;by_cases h0i:i=0
  .subst h0i;have ce0:lC 0 e=[]:=by simp[lC,nr]
   have e1:lC 1 e=bb (tx (ib x.1 x.2)):=by rw[es,ce0];rfl
   rw[ce0]
   show rh (cV SM 2 2 32 (.ref 1 1 0 0 0 0) _ [_,_,ah]) _ _
   refine app0 lt2 (λh=>rfl) (λt e=>by cases e) ?_;rw[<-e1];simp[hre,clean,fK,yh,yg,fC,gZ,off1,off2,hpt,kN,Acc.v,Acc.b];simpa[sJ,yr,kN,Acc.v,Acc.b]using ih
  .have ei:sJ e i=kN.v i (lC i e):=by unfold sJ;rw[iN h0i]
   have ei1:sJ e (i+1)=kN.v (i+1) (lC (i+1) e):=by unfold sJ;rw[iN aa]
   have bP:∀x y z w:Nat×Bk,([x,y,z]:Hp).set kN.s w=[x,y,w]:=λx y z w=>rfl
   have ev:∀c,kN.v (i+1) c=.ref kN.s (kN.e+1) 0 (i+1) (i+1) (RW c):=λc=>rfl
   have eb:∀c,kN.b (i+1) c=(kN.e+1,.data kN.n c SM SM):=λc=>rfl
   rw[ei];refine kM kN (k:=1) aa rfl lce lt2 rfl (λt e=>by cases e) aa am ?_;rw[ei1,es]at ih;unfold yr at ih;rw[es]at ih;simp(disch:=try exact cC)[bP,hre,clean,fK,yh,yg,fC,gZ,off1,off2,hpt,ev,eb];refine⟨rfl,?_⟩;simpa[ev,eb]using ih
theorem aja{p:aw}(he:RW e=4)(hb:∀x∈e,(-128<=x.1∧x.1<=127)∧x.2<256)(hp:RW p<=4)(hl:0<RW p):Ds F.AF [aj di p,.agg (oi e)] (aX (nr (RW p) e)):=by
 apply agx
 have lce:RW (lC (RW p) e)=RW p*2:=by
  unfold lC;rw[jB bb dZ,List.length_map];simp[nr];omega
 have hv:sJ e (RW p)=kN.v (RW p) (lC (RW p) e):=by unfold sJ;rw[iN aa]
 have ls:RW ((nr (RW p) e).map tx)=RW p:=by simp[nr];omega
 have hl:=Uk (p:=p) he hb hp (aU [((.exit 0),λl3 h=>out (aX (nr (RW p) e)) (ge l3 0) h)]) (yr e 0) rfl (RW p) 0 aa (by
  have⟨h',q1,_⟩:=mO kN (L:=RW p) (cells:=lC (RW p) e) (h:=yr e (RW p)) rfl lce;simp only[aU];have es:aX (nr (RW p) e)=.d (.sl (RW p) (lC (RW p) e)):=by unfold aX de lC;rw[ls]
  rw[es];refine⟨h',?_⟩
  show bQ _ (sJ e (RW p))=_
  rw[hv];exact q1)
 have hm:∃a b c d:Int×Nat,e=[a,b,c,d]:=by
  match e,he with
  |[a,b,c,d],_=>exact⟨a,b,c,d,rfl⟩
 obtain⟨a,b,c,d,rfl⟩:=hm;have hl0:∀H:Hp,cI 0 [D.str [],D.str []] [] H=Wf ([],H):=λH=>by simp[cI,dI,d8]
 simp[AF,oi,hl0];exact hl
theorem KT(a:Int)(b:Nat):∃z:Int,rp 12 (ib a b) z∧z.natAbs<=480:=by
 have r1 : -41<a.tmod 41:=Int.lt_tmod_of_pos a am;have r2:=Int.tmod_lt_of_pos a (b:=41) am;unfold ib;generalize a.tmod 41=z at *
 have key:∀d:Nat,0<d->d∣12->rp 12 (ju z (d:Int)) (z*(12/d:Nat))∧(z*(12/d:Nat)).natAbs<=480:=by
  intro d hd hdv;rw[ajd hd];have⟨c,hc⟩:=hdv;have e:12/d=c:=by rw[hc];exact Yc _ hd
  rw[e];have hc12:c<=12:=by rw[hc];exact Nat.le_mul_of_pos_left _ hd
  refine⟨FY hd ?_,?_⟩
  .have:((12:Nat):Int)=(c:Int)*(d:Int):=by rw[<-Int.natCast_mul,Zq,<-hc]
   rw[this,Int.mul_assoc]
  .rw[Zl,Int.natAbs_natCast];exact Zr (by omega:z.natAbs<=40) hc12
 rcases NF b with h|h|h|h|h|h<;>rw[h]
 .exact⟨_,key 1 am am⟩
 .exact⟨_,key 2 am am⟩
 .exact⟨_,key 3 am am⟩
 .exact⟨_,key 4 am am⟩
 .exact⟨_,key 6 am am⟩
 .exact⟨_,key 12 am am⟩
theorem apT(k:Nat)(e:List (Int×Nat)):eS 12 480 (nr k e):=by intro x hx;obtain⟨y,_,rfl⟩:=Zw.1 hx;exact KT y.1 y.2
def vd(x:Int->Int)(p:Int):Int:=if p=2 then x p else x p+1
def jC(x:Int->Int):List (Int×Int)->Int×Int->Int×Int
 |[],a=>a
 |t::ts,a=>jC x ts (if t.2<0 then(a.1+vd x t.1*t.2,a.2+x t.1*t.2)else(a.1+x t.1*t.2,a.2+vd x t.1*t.2))
theorem Nt(n:Nat):∀(ts:List (Int×Int))(a:Int×Int),dW n ts a=jC (eD n) ts a
 |[],a=>rfl
 | t::ts,a=>by
  simp[dW,jC,vd,eD];exact Nt n ts _
def DZ(p:Int):Int:=((uE p.toNat).getD 0:Nat)
theorem YH{DM:Int}:∀(ts:List (Int×Int))(a r:Int×Int),pj DM ts a=Wf r->r=jC DZ ts a
 | [],a,r,h=>by
  simp[pj,Z9]at h;exact h.symm
 | t::ts,a,r,h=>by
  simp only[pj]at h;split at h
  .cases h
  .split at h
   .cases h
   .rename_i f hf;have hx:DZ t.1=(f:Int):=by unfold DZ;rw[hf];rfl
    have ih:=YH ts _ r h;rw[ih,jC];congr 1;unfold vd;rw[hx];have⟨b,hb⟩:∃b:Int,b=if t.1=2 then(f:Int)else f+1:=⟨_,rfl⟩
    rw[<-hb];have hfb:(f:Int)<=b:=by rw[hb];split<;>omega
    by_cases hn:t.2<0
    .rw[ip hn];have:t.2*b<=t.2*f:=Int.mul_le_mul_of_nonpos_left aa hfb;rw[Int.min_eq_right this,Int.max_eq_left this,Yi b,Yi (f:Int)]
    .rw[iN hn];have:t.2*f<=t.2*b:=Xq hfb aa;rw[Int.min_eq_left this,Int.max_eq_right this,Yi b,Yi (f:Int)]
theorem BP{x:Int->Int}:∀(ts:List (Int×Int))(a:Int×Int),jC x ts a=(a.1+(jC x ts (0,0)).1,a.2+(jC x ts (0,0)).2)
 |[],a=>by simp[jC]
 | t::ts,a=>by
  simp only[jC];split
  .rw[BP ts,BP ts (0+_,0+_)];simp[Xa,V5]
  .rw[BP ts,BP ts (0+_,0+_)];simp[Xa,V5]
theorem YG{x x':Int->Int}{K:Int}(hK:0<=K):∀ts:List (Int×Int),(∀t∈ts,x t.1*K<=x' t.1∧vd x' t.1<=vd x t.1*K)->(jC x ts (0,0)).1*K<=(jC x' ts (0,0)).1∧(jC x' ts (0,0)).2<=(jC x ts (0,0)).2*K
 |[],_=>by simp[jC]
 | t::ts,h=>by
  have⟨h1,h2⟩:=h t ac;have⟨i1,i2⟩:=YG hK ts λu hu=>h u (by simp[hu])
  simp only[jC];rw[BP ts,BP (x:=x') ts];by_cases hn:t.2<0
  .rw[ip hn,ip hn];simp[Xa,Wz];have m1:=Int.mul_le_mul_of_nonpos_right h2 (by omega:t.2<=0);have m2:=Int.mul_le_mul_of_nonpos_right h1 (by omega:t.2<=0);rw[Ys]at m1 m2;constructor<;>omega
  .rw[iN hn,iN hn];simp[Xa,Wz];have m1:=Y0 h1 (by omega:0<=t.2);have m2:=Y0 h2 (by omega:0<=t.2);rw[Ys]at m1 m2;constructor<;>omega
def ua(x:Int->Int)(K:Nat)(p:Int):Bool:=decide (x p*K<=eD 2048 p)&&decide (vd (eD 2048) p<=vd x p*K)
theorem B8:∀p∈oJ,ua DZ (2^2022) p=Th∧ua (eD 64) (2^1984) p=Th∧ua (eD 128) (2^1920) p=Th∧ua (eD 256) (2^1792) p=Th∧ua (eD 512) (2^1536) p=Th∧ua (eD 1024) (2^1024) p=Th:=dw
theorem aiq{x:Int->Int}{K:Nat}(h:∀t∈ts,ua x K t.1=Th):(jC x ts (0,0)).1*K<=(jC (eD 2048) ts (0,0)).1∧(jC (eD 2048) ts (0,0)).2<=(jC x ts (0,0)).2*K:=by
 refine YG aa ts λt ht=>?_
 have:=h t ht;simp[ua,Z7,dT]at this;exact this
theorem B3{x:Int->Int}{K:Nat}(h:∀t∈ts,ua x K t.1=Th)(hT:iY (eD 2048) ts≠0):
  (0<=(jC x ts (0,0)).1->(iY (eD 2048) ts).sign=1)∧((jC x ts (0,0)).2<=0->(iY (eD 2048) ts).sign = -1):=by
 have⟨n1,n2⟩:=aiq h;have⟨g1,g2,_⟩:=Ip 2048 ts;rw[Nt]at g1 g2;refine⟨λh0=>?_,λh0=>?_⟩
 .have:=Int.mul_nonneg h0 (by omega:(0:Int)<=K);exact Int.sign_eq_one_of_pos aa
 .have:=Int.mul_nonneg (a:=-(jC x ts (0,0)).2) (b:=(K:Int)) aa aa;rw[Int.neg_mul]at this;exact Int.sign_eq_neg_one_of_neg aa
theorem anZ(hT:iY (eD 2048) ts≠0):
  (0<=(dW 2048 ts (0,0)).1->(iY (eD 2048) ts).sign=1)∧((dW 2048 ts (0,0)).2<=0->(iY (eD 2048) ts).sign = -1):=by have⟨g1,g2,_⟩:=Ip 2048 ts;exact⟨λh0=>Int.sign_eq_one_of_pos aa,λh0=>Int.sign_eq_neg_one_of_neg aa⟩
theorem afV(hm:∀t∈ts,t.1∈oJ)(hn:(ts.map Prod.fst).Nodup)(h0:∀t∈ts,t.2≠0)(hl:RW ts<=6)(hb:∀t∈ts,t.2.natAbs<9223372036854775808):xQ ts=Wf (iY (eD 2048) ts).sign:=by
 cases ts with
 |nil=>rfl
 | cons t l=>
  have⟨ts,hts⟩:∃ts,ts=t::l:=⟨_,rfl⟩;have MT:ts≠[]:=by rw[hts];simp
  rw[<-hts]at hm hn h0 hl hb ⊢;have h1:=J1 (C:=9223372036854775808) ts λt ht=>V9 (hb t ht)
  have h2:RW ts*9223372036854775808<=6*9223372036854775808:=Zu _ hl;have hb1:oc ts<=73786976294838206464:=aa
  have hT:iY (eD 2048) ts≠0:=by
   intro e;have hz:=TR (n:=2048) Ou rfl Ot hm hb1 (by rw[e];simp);rw[hts]at hz hm hn h0;have:=hz t.1 (hm t ac);simp only[Zv,Xx]at hn;rw[nQ,ip rfl,Oi l hn.1]at this;exact h0 t ac aa
  have dec:=Re (n:=2048) Ou rfl Ot hm hn h0 hb1 hb1 MT;have⟨f1,f2⟩:=B3 (x:=DZ) (K:=2^2022) (λt ht=>(B8 _ (hm t ht)).1) hT;have e:xQ ts=if mA ts≠0 then Wf (mA ts)else pW ts 6 64:=by rw[hts];rfl
  rw[e];by_cases hq:mA ts≠0
  .rw[ip hq];unfold mA at hq ⊢;split at hq
   .exact absurd rfl hq
   .rename_i a ha;have ea:=YH _ _ _ ha;rw[<-ea]at f1 f2;by_cases c1:0<=a.1
    .rw[ip c1,f1 c1]
    .rw[iN c1];rw[iN c1]at hq;by_cases c2:a.2<=0
     .rw[ip c2,f2 c2]
     .rw[iN c2]at hq;exact absurd rfl hq
  .rw[iN hq]
   have step:∀(r n:Nat)(nx:Option Int),(0<=(dW n ts (0,0)).1->(iY (eD 2048) ts).sign=1)->((dW n ts (0,0)).2<=0->(iY (eD 2048) ts).sign = -1)->(pW ts r (n*2)=Wf (iY (eD 2048) ts).sign∨(0<=(dW n ts (0,0)).1∨(dW n ts (0,0)).2<=0))->pW ts (r+1) n=Wf (iY (eD 2048) ts).sign:=by
    intro r n nx a1 a2 a3;unfold pW;by_cases c1:0<=(dW n ts (0,0)).1
    .rw[ip c1,a1 c1]
    .rw[iN c1];by_cases c2:(dW n ts (0,0)).2<=0
     .rw[ip c2,a2 c2]
     .rw[iN c2];rcases a3 with h|h|h
      .exact h
      .exact absurd h c1
      .exact absurd h c2
   have l64:=B3 (x:=eD 64) (K:=2^1984) (λt ht=>(B8 _ (hm t ht)).2.1) hT;have l128:=B3 (x:=eD 128) (K:=2^1920) (λt ht=>(B8 _ (hm t ht)).2.2.1) hT;have l256:=B3 (x:=eD 256) (K:=2^1792) (λt ht=>(B8 _ (hm t ht)).2.2.2.1) hT;have l512:=B3 (x:=eD 512) (K:=2^1536) (λt ht=>(B8 _ (hm t ht)).2.2.2.2.1) hT
   have l1024:=B3 (x:=eD 1024) (K:=2^1024) (λt ht=>(B8 _ (hm t ht)).2.2.2.2.2) hT;rw[<-Nt]at l64 l128 l256 l512 l1024;have l2048:=anZ hT
   exact step 5 64 Vc l64.1 l64.2 (.inl (step 4 128 Vc l128.1 l128.2 (.inl (step 3 256 Vc l256.1 l256.2 (.inl (step 2 512 Vc l512.1 l512.2 (.inl (step 1 1024 Vc l1024.1 l1024.2 (.inl (step 0 2048 Vc l2048.1 l2048.2 (.inr dec)))))))))))
def mU(b:Nat):List Q->aw->Prop
 |x::s,a::r=>rp b x a∧mU b s r
 |[],[]=>True
 |_,_=>False
def mR(z:Int):aw->aw->aw
 |a::r,c::t=>(a+z*c)::mR z r t
 |_,_=>[]
theorem KQ{b:Nat}:∀{s:List Q}{r:aw},mU b s r->RW r=RW s
 |[],[],_=>rfl
 |x::s,a::r,h=>by simp[KQ h.2]
 |[],_::_,h=>h.elim
 |_::_,[],h=>h.elim
theorem KR{b:Nat}(z:Int):∀{o s:List Q}{r t:aw},RW o=RW s->mU b o r->mU b s t->mU b (iW (z,1) o s) (mR z r t)
 |[],[],[],[],_,_,_=>trivial
 | x::o,y::s,a::r,c::t,hl,h1,h2=>by
  simp[iW,mR];exact⟨F5 h1.1 (RJ z h2.1),KR z (by simpa using hl) h1.2 h2.2⟩
 |[],_::_,_,_,hl,_,_=>by simp at hl
 |_::_,[],_,_,hl,_,_=>by simp at hl
 |[],[],_::_,_,_,h,_=>h.elim
 |[],[],[],_::_,_,_,h=>h.elim
 |_::_,_::_,[],_,_,h,_=>h.elim
 |_::_,_::_,_::_,[],_,_,h=>h.elim
theorem RF(b:Nat):∀n:Nat,mU b (So n (0,1)) (So n 0)
 |0=>trivial
 | n+1=>by
  rw[List.replicate_succ,List.replicate_succ];exact⟨KS b,RF b n⟩
theorem KP{b:Nat}(m:Nat):∀{s:List Q}{r:aw},mU b s r->mU (b*m) s (r.map λa=>a*m)
 |[],[],_=>trivial
 |x::s,a::r,h=>⟨agF m h.1,KP m h.2⟩
 |[],_::_,h=>h.elim
 |_::_,[],h=>h.elim
theorem Ny(z:Int):∀{r t L:aw},RW r=RW t->b9 (mR z r t) L=b9 r L+z*b9 t L
 |[],[],L,_=>by simp[mR,b9]
 |a::r,c::t,[],_=>by simp[mR,b9]
 | a::r,c::t,l::L,h=>by
  simp[mR,b9,Ny z (r:=r) (t:=t) (L:=L) (by simpa using h),Wz,V2,Int.mul_assoc];omega
 |[],_::_,_,h=>by simp at h
 |_::_,[],_,h=>by simp at h
theorem Nx:∀(n:Nat)(L:aw),b9 (So n 0) L=0
 |0,L=>by simp[b9]
 |n+1,[]=>by simp[List.replicate_succ,b9]
 |n+1,l::L=>by simp[List.replicate_succ,b9,Nx n L]
theorem Nz(m:Int):∀(r L:aw),b9 (r.map λa=>a*m) L=b9 r L*m
 |[],L=>by simp[b9]
 |a::r,[]=>by simp[b9]
 | a::r,l::L=>by
  simp only[Zv,b9,Nz m r L,Wz];rw[Ys]
theorem Py(z:Int):∀{r t:aw},RW r=RW t->RW (mR z r t)=RW r
 |[],[],_=>rfl
 |a::r,c::t,h=>by simp[mR,Py z (r:=r) (t:=t) (by simpa using h)]
 |[],_::_,h=>by simp at h
 |_::_,[],h=>by simp at h
theorem RH{b B:Nat}:∀{s:List Q}{r:aw},mU b s r->(∀a∈r,a.natAbs<=B)->eS b B s
 |[],[],_,_=>λx hx=>by simp at hx
 | x::s,a::r,h,hb=>by
  have ih:=RH h.2 λc hc=>hb c (by simp[hc])
  intro y hy;simp[Zy]at hy;rcases hy with rfl|hy
  .exact⟨a,h.1,hb a ac⟩
  .exact ih y hy
 |[],_::_,h,_=>h.elim
 |_::_,[],h,_=>h.elim
theorem aa0{b B:Nat}:∀{s:List Q},eS b B s->∃r,mU b s r∧∀a∈r,a.natAbs<=B
 |[],_=>⟨[],trivial,λa h=>by simp at h⟩
 | x::s,h=>by
  have⟨a,h1,h2⟩:=h x ac;have⟨r,h3,h4⟩:=aa0 (s:=s) λy hy=>h y (by simp[hy])
  refine⟨a::r,⟨h1,h3⟩,λc hc=>?_⟩;simp[Zy]at hc;rcases hc with rfl|hc
  .exact h2
  .exact h4 c hc
theorem PN{b d:Nat}(h:Int->Int)(hb:0<b)(hd:d∣b):∀{p:aw}{s:List Q}{r:aw},RW s=RW p->mU b s r->(∀x∈s,x.2∣d)->iY h (fO d p s)*((b/d:Nat):Int)=b9 r (p.map h)
 |[],[],[],_,_,_=>by simp[fO,iY,b9]
 | c::p,x::s,a::r,hl,hr,hv=>by
  have ih:=PN h hb hd (p:=p) (s:=s) (r:=r) (by simpa using hl) hr.2 λy hy=>hv y (by simp[hy])
  have hx:=hv x ac;have p1:=hr.1.1.1;have d0:0<d:=Nat.pos_of_dvd_of_pos hd hb
  have key:x.1*((d/x.2:Nat):Int)*((b/d:Nat):Int)=a:=by
   have⟨u,hu⟩:=hx;have⟨v,hv'⟩:=hd;have e1:d/x.2=u:=by rw[hu];exact Yc _ p1
   have e2:b/d=v:=by rw[hv'];exact Yc _ d0
   rw[e1,e2];have h2:=hr.1.2;rw[hv',hu,Int.natCast_mul,Int.natCast_mul]at h2;refine Int.eq_of_mul_eq_mul_right (a:=(x.2:Int)) aa ?_;rw[<-h2];simp[Yi,Int.mul_left_comm,Int.mul_assoc]
  simp only[fO];split
  .rename_i h0;rw[h0]at key;simp[Int.zero_mul]at key;rw[ih,Zv,b9,<-key];simp
  .rw[iY,Wz,ih,Zv,b9];simp only;rw[Ys,key]
 |[],_::_,_,hl,_,_=>by simp at hl
 |_::_,[],_,hl,_,_=>by simp at hl
 |[],[],_::_,_,h,_=>h.elim
 |_::_,_::_,[],_,h,_=>h.elim
theorem Q6{k:Int}(hk:0<k):(z*k).sign=z.sign:=by rw[Int.sign_mul,Int.sign_eq_one_of_pos hk,Int.mul_one]
def L5(p:aw):aw:=p.map (eD 2048)
theorem KB{p:aw}{b B:Nat}(hp:uv p)(hl:RW s=RW p)(hb:0<b)(hr:mU b s r)(hB:∀a∈r,a.natAbs<=B)(hB2:B<9223372036854775808):tU p s ((b9 r (L5 p)).sign):=by
 have bd:=RH hr hB;have h1:=PT hp hb bd hB2;have hd:∀x∈s,0<x.2:=λx hx=>(aa1 hb bd x hx).1
 have hll:RW (tq p s)<=6:=by
  have:=E4 (d:=jR 1 s) p s;have:=hp.2.1;unfold tq;omega
 have dv:∀x∈s,x.2∣jR 1 s:=λx hx=>(IA (s:=s) (d:=1)).2 x hx
 have d0:0<jR 1 s:=Iz am hd;have dd:=aa4 bd;have hs:=afV (E0 hp) (JQ hp.1) (JR d0 λx hx=>⟨hd x hx,dv x hx⟩) hll λt ht=>(h1.2 t ht).2.2
 refine⟨aid h1,apg (E0 hp),?_⟩;rw[hs];have:=PN (eD 2048) hb dd hl hr dv;unfold L5;rw[<-this,Q6]
 .rfl
 .have:=V4 (Xk hb dd) d0;omega
theorem anb{p:aw}{a b:List Q}{m B:Nat}(hp:uv p)(la:RW a=RW p)(lb:RW b=RW p)(n0:0<n)(m0:0<m)(ha:mU n a r)(hb:mU m b t)(hA:∀x∈r,x.natAbs<=A)(hB:∀x∈t,x.natAbs<=B)(hC:A*m+B*n<9223372036854775808):
  tU p (kC p a b) ((b9 r (L5 p)*m-b9 t (L5 p)*n).sign):=by
 have lr:=KQ ha;have lt:=KQ hb;have r1:=KP m ha;have r2:=KP n hb;rw[Zq m n]at r2;have z:=RF (n*m) (RW p);have s1:=KR 1 (by simp[la]) z r1;have s2:=KR (-1) (by rw[zw _ _ _ (by simp[la]),la,lb]) s1 r2;have e:iW (-1,1) (iW (1,1) (So (RW p) (0,1)) a) b=kC p a b:=by simp[kC,gA,nA]
 rw[e]at s2;have h1:RW (mR 1 (So (RW p) 0) (r.map λa=>a*(m:Int)))=RW p:=by rw[Py _ (by simp[lr,la])];simp
 have hd:b9 (mR (-1) (mR 1 (So (RW p) 0) (r.map λa=>a*(m:Int))) (t.map λa=>a*(n:Int))) (L5 p)=b9 r (L5 p)*m-b9 t (L5 p)*n:=by
  rw[Ny _ (by rw[h1];simp[lt,lb]),Ny _ (by simp[lr,la]),Nx,Nz,Nz];omega
 have ld:RW (kC p a b)=RW p:=by rw[<-e,zw _ _ _ (by rw[zw _ _ _ (by simp[la]),la,lb]),lb]
 rw[<-hd];refine KB hp ld (Yk n0 m0) s2 (B:=A*m+B*n) ?_ hC
 have vb:∀(z:Int)(X Y:Nat)(u v:aw),(∀x∈u,x.natAbs<=X)->(∀x∈v,x.natAbs<=Y)->∀x∈mR z u v,x.natAbs<=X+z.natAbs*Y:=by
  intro z X Y u
  induction u with
  |nil=>intro v _ _ x hx;simp[mR]at hx
  | cons a u ih=>
   intro v h1 h2 x hx;cases v with
   |nil=>simp[mR]at hx
   | cons c v=>
    simp[mR,Zy]at hx;rcases hx with rfl|hx
    .have q1:=h1 a ac;have q2:=h2 c ac;have q3:=Xz a (z*c);rw[Zl]at q3;have q4:=Z4 z.natAbs q2;omega
    .exact ih v (λy hy=>h1 y (by simp[hy])) (λy hy=>h2 y (by simp[hy])) x hx
 have q1:∀x∈r.map (λa=>a*(m:Int)),x.natAbs<=A*m:=λx hx=>by
  obtain⟨y,hy,rfl⟩:=Zw.1 hx;rw[Zl,Int.natAbs_natCast];exact Zu _ (hA y hy)
 have q2:∀x∈t.map (λa=>a*(n:Int)),x.natAbs<=B*n:=λx hx=>by
  obtain⟨y,hy,rfl⟩:=Zw.1 hx;rw[Zl,Int.natAbs_natCast];exact Zu _ (hB y hy)
 have q3:=vb 1 0 (A*m) (So (RW p) 0) _ (λx hx=>by rw[Ww]at hx;rw[hx.2];simp) q1;have q4:=vb (-1) _ (B*n) _ _ q3 q2;intro x hx;have:=q4 x hx;simpa using this
def yi(b:Nat)(s:List Q):aw:=s.map λx=>x.1*((b/x.2:Nat):Int)
theorem RG{b:Nat}:∀{s:List Q}{r:aw},mU b s r->r=yi b s
 |[],[],_=>rfl
 | x::s,a::r,h=>by
  have ih:=RG h.2;have⟨⟨hx,e⟩,_⟩:=h;have⟨u,hu⟩:=FZ ⟨hx,e⟩;have p1:=hx.1;have e1:b/x.2=u:=by rw[hu];exact Yc _ p1
  have:a=x.1*(u:Int):=by
   refine Int.eq_of_mul_eq_mul_right (a:=(x.2:Int)) aa ?_;rw[<-e,hu,Int.natCast_mul,Int.mul_assoc,Yi (x.2:Int)]
  simp only[yi,Zv];rw[e1,this,ih];rfl
 |[],_::_,h=>h.elim
 |_::_,[],h=>h.elim
theorem GP{b B:Nat}(h:eS b B s):mU b s (yi b s)∧∀a∈yi b s,a.natAbs<=B:=by have⟨r,h1,h2⟩:=aa0 h;have e:=RG h1;subst e;exact⟨h1,h2⟩
def pO(p:aw)(n:Nat)(s:List Q):Int:=b9 (yi n s) (L5 p)
theorem aoI{p:aw}{a b:List Q}{m B:Nat}(hp:uv p)(la:RW a=RW p)(lb:RW b=RW p)(n0:0<n)(m0:0<m)(ha:eS n A a)(hb:eS m B b)(hC:A*m+B*n<9223372036854775808):
  tU p (kC p a b) ((pO p n a*m-pO p m b*n).sign):=by have⟨h1,h2⟩:=GP ha;have⟨h3,h4⟩:=GP hb;exact anb hp la lb n0 m0 h1 h3 h2 h4 hC
abbrev Lk:=Int×Int
structure Ad where
 p:aw
 ch:List cN
 lk:List (List Lk)
 cd:List cN
 w:Q
variable{a:Ad}
variable{b:Nat}{c:UInt8}{kb:Nat}
theorem Ut(z:Int):ju z 1=(z,1):=by simp[ju,fD]
variable{p:aw}{c w:Mz}
end Go.Vm
