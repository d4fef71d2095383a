/- Divisions: Best. -/
import Derived.Test.YtaiahkcmdnaooaaGreatDoorQLdY
set_option linter.unusedVariables false
set_option linter.unusedSimpArgs false
namespace Go.Vm
open Go Go.Am Go.Big
theorem sign_neg {x:Int}:(x.sign<0)=(x<0):=by
 rcases W4 x 0 with h | h | h
 ·rw [Yh h];simp;omega
 ·rw [h];simp
 ·rw [Ye h];simp;omega
def bdS (p:List Int) (z:Int) (n:Nat):List Q:=kI p.length [eJ p.length] [gQ z n]
theorem U7 {x:Q} (hx:0<x.2) (k:Nat):kw x (List.replicate k (0,1)) (List.replicate k (0,1))=List.replicate k (0,1):=by
 induction k with
 | zero=>simp [kw]
 | succ k ih=>
  rw [List.replicate_succ,kw,ih];have e1:mI ((0,1):Q) x=(0,1):=jH ⟨Wd,ag⟩ (by simpa using hx) ag;have e2:pz ((0,1):Q) (0,1)=(0,1):=ae;rw [e1,e2]
theorem SR {p:List Int} {z:Int} {n:Nat} (hl:0<p.length) (h0:0<n):bdS p z n=gQ z n::List.replicate (p.length-1) (0,1):=by
 obtain ⟨k,hk⟩:∃ k,p.length=k+1:=⟨p.length-1,aa⟩;have ho:=rC z h0;unfold bdS kI eJ;rw [hk,List.replicate_succ];simp only [qU,kw,Xi];rw [U7 ho.1 k];have e1:mI ((1,1):Q) (gQ z n)=gQ z n:=jH ho (by simpa using ho.1) ag;rw [e1];have e2:pz ((0,1):Q) (gQ z n)=gQ z n:=jH ho (by simpa using ho.1) ag;rw [e2]
theorem YB {p:List Int} {z:Int} {n:Nat} (hl:0<p.length) (h0:0<n):bdL n z.natAbs (bdS p z n):=by
 rw [SR hl h0];intro x hx;simp only [Zt,Y5] at hx;rcases hx with rfl | ⟨_,rfl⟩
 ·exact ⟨z,⟨rC z h0,(GY z h0).1⟩,Z7 _⟩
 ·exact ⟨0,xo n,ag⟩
theorem U1 {p:List Int} {z:Int} {n:Nat} (hl:0<p.length) (h0:0<n):(bdS p z n).length=p.length:=by rw [SR hl h0];simp;omega
def ovB (p:List Int) (m:Nat) (bd:List Q) (n:Nat) (r:Rw):Bool:=decide (vlS p m bd*n<vlS p n (kX p n r)*m)
structure KE (p:List Int) (m:Nat) (bd:List Q):Prop where
 m0:0<m
 m1:m<=1000
 ln:bd.length=p.length
 bd:bdL m 1000 bd
theorem KE.ok {p:List Int} {m:Nat} {bd:List Q} (b:KE p m bd):okS bd:=nY b.m0 b.bd (by have:=b.m1;omega) aa
theorem TM {p:List Int} {l:List Rw} (G:uu p l) {r:Rw} (hr:r∈l) {n m:Nat} (n0:0<n) (n1:n<=100) {bd:List Q} (b:KE p m bd) (lo hi:Int) :
  CP Y F.dQ [lst di r,.dptr [row p] 0,.dptr [di n] 0,.dptr [di lo,di hi,szD bd] 0] (B (ovB p m bd n r)):=by
 refine vf ?_;obtain ⟨a1,a2,a3,a4,a5,a6⟩:=DI G hr n0 n1;have hN:=G.i6.2.1;have e1:1000*n<=1000*100:=Z5 _ n1;have e2:8645700*m<=8645700*1000:=Z5 _ b.m1;have oa:=nY n0 a2 aa aa;have cs:=aaU G.i6 b.ln a1 b.m0 n0 b.bd a2 aa;have dl:=Kb G.pc aa b.ln a1 b.ok oa cs
 have ev:decide ((vlS p m bd*n-vlS p n (kX p n r)*m).sign<0)=ovB p m bd n r:=by
  unfold ovB;exact decide_eq_decide.2 (by rw [sign_neg];omega)
 rw [ev] at dl;have l1:∀ h,ld1 h (.dptr [row p] 0)=some (lst di p):=fun _=>rfl
 have l2:∀ h,ld1 h (.dptr [di n] 0)=some (I n):=fun _=>rfl
 have l3:∀ h,ld1 h (.dptr [di lo,di hi,szD bd] 2)=some (szV bd):=fun _=>rfl
 have f3:faV 2 (.dptr [di lo,di hi,szD bd] 0)=some (.dptr [di lo,di hi,szD bd] 2):=rfl;have sn:∀ (h:Hp) (x y:List Q),ai h [lst di p,szV x,szV y]=some ([lst di p,szV x,szV y],h):=fun h x y=>by simp [ai,szV,bU]
 simp (disch:=try exact ac)[dQ,l1,l2,l3,f3];refine cd a5 ?_;simp (disch:=try exact ac)[l1,l3,f3];refine cd dl ?_ (sn _ _ _);simp (disch:=try exact ac)[]
theorem A0 {g:FuncId} {cs:List V} {p:List Int->Bool} (l:List Rw) (hN:l.length<4611686018427387904) (hs:∀ x:Rw,ai [] ([lst di x]++cs)=some ([lst di x]++cs,[])) (hc:ai [] cs=some (cs,[])) (hp:∀ x∈l,CP Y g ([lst di x]++cs) (B (p x))) :
  CP Y F.aY [mat l,.fn g [] cs] (B (l.any p)):=by
 refine lX ?_;simp (disch:=try exact ac)[aY];refine cd (v:=I (idx p l)) (mR (M9 (fs:=[]) l hN hs hp)) ?_ ?_
 ·simp (disch:=try exact ac)[];have:=Bu p l;have e:decide (0<=idx p l)=l.any p:=by rw [Y0];simpa using this
  rw [e];exact xA ..
 ·simp [ai,aF,mat,hc]
def r8 (pass:Nat->Bool):Nat->Nat->List Int
 | 0,_=>[]
 | f+1,n=>if pass n then (n:Int)::r8 pass f (n+1) else r8 pass f (n+1)
def pI (p:List Int) (l:List Rw) (m:Nat) (bd:List Q) (n:Nat):Bool:=!(l.any (ovB p m bd n))
def acW:Acc:=⟨3,0,1,.none⟩
def wiH (p:List Int) (lo hi l2:Nat) (bd:List Q) (out0:List Int) (s4:Nat × Bk):Hp:=
 [(1,.vars [lst di p]),(1,.vars [I lo,I hi,szV bd]),(1,.vars [I l2]),acW.b out0.length (out0.map di),s4]
theorem Me {p:List Int} {l:List Rw} (G:uu p l) {lo hi l2 m:Nat} (hhi:hi<=100) (hlo:1<=lo) (hN:l.length<1000000) {bd:List Q} (b:KE p m bd) (k:KL) (h0:Hp) (hh:h0.length=5):∀ (f n:Nat) (out0:List Int) (P:V) (s4:Nat × Bk),n+f=hi+1->lo<=n->out0.length<n ->
  ((P=.ptr 2 1 0 1∧n=l2∧s4=(0,.none))∨∃ e,P=.ptr 4 e 0 1∧s4=(e,.vars [I n])) ->
  (∀ s,k (.exit 0) [acW.v (out0++r8 (pI p l m bd) f n).length ((out0++r8 (pI p l m bd) f n).map di)] (wiH p lo hi l2 bd (out0++r8 (pI p l m bd) f n) s)) ->
  lp (iK (CX Y) (mat l) (.ptr 0 1 0 1) (.ptr 1 1 0 3)) [] h0 [acW.v out0.length (out0.map di),P] (wiH p lo hi l2 bd out0 s4) k
 | 0,n,out0,P,s4,hf,hn,ho,hP,hk=>by
  have g:¬ (n:Int)<=(hi:Int):=aa;refine am ?_;simp only [r8,X6] at hk;rcases hP with ⟨rfl,rfl,rfl⟩ | ⟨e,rfl,rfl⟩
  ·simp (disch:=try exact ac)[iK,wiH,g];exact hk _
  ·simp (disch:=try exact ac)[iK,wiH,g];exact hk _
 | f+1,n,out0,P,s4,hf,hn,ho,hP,hk=>by
  have g:(n:Int)<=(hi:Int):=aa;have co:=A0 (g:=F.dQ) (cs:=[.dptr [row p] 0,.dptr [di n] 0,.dptr [di lo,di hi,szD bd] 0]) (p:=ovB p m bd n) l aa (fun x=>by simp [ai,aF,lst]) (by simp [ai,aF]) (fun x hx=>TM G hx aa aa b lo hi);have hpl:∀ b,gW (B b)=true:=fun _=>rfl
  have li1:∀ (z:Int) (H:Hp),dF 1 [D.int IntKind.i64 0] [(0,I z)] H=some ([di z],H):=fun z H=>by simp [dF,gC,jy,toD,di]
  have cR:(out0.map di).length=out0.length*acW.n:=by simp [acW]
  have cw:∀ a b c d e x:Nat × Bk,([a,b,c,d,e]:Hp).set acW.s x=[a,b,c,x,e]:=fun _ _ _ _ _ _=>rfl
  have hre:∀ x:Hp,x.length=5->aC [] 0 h0 x=x:=fun x hx=>bO 0 h0 x aa
  have ev:∀ c,acW.v (out0.length+1) c=.ref acW.s (acW.e+1) 0 (out0.length+1) (out0.length+1) c.length:=fun c=>rfl
  have eb:∀ c,acW.b (out0.length+1) c=(acW.e+1,.data acW.n c false false):=fun c=>rfl
  have ov:=fun n c=>vi acW [] n c rfl
  have ob:=fun n c=>vj acW [] n c rfl
  obtain ⟨e0,he0⟩:∃ e0,e0=s4.1:=⟨_,rfl⟩;have ih:=fun o2 ho2 hk2=>Me (l2:=l2) G hhi hlo hN b k h0 hh f (n+1) o2 (.ptr 4 (e0+1) 0 1) (e0+1,.vars [I (n+1:Nat)]) aa aa ho2 (.inr ⟨_,rfl,rfl⟩) hk2
  have hpb:∀ x,pI p l m bd n = !x↔l.any (ovB p m bd n)=x:=fun x=>by unfold pI;cases l.any (ovB p m bd n) <;> cases x <;> simp
  rw [r8] at hk;refine am ?_;rcases hP with ⟨rfl,rfl,rfl⟩ | ⟨e,rfl,rfl⟩
  all_goals
   simp only at he0;subst he0;simp (disch:=try exact ac)[iK,wiH,g];refine aZ ?_;simp (disch:=try exact ac)[];refine cdz (ds:=[mat l,.fn F.dQ [] [.dptr [row p] 0,.dptr [di n] 0,.dptr [di lo,di hi,szD bd] 0]]) (by simp [ai,aF,aP,cw,O4,lst,row,szV,bU,szD,di];exact rfl) co ?_;simp only [hpl,if_true]
   cases hany:l.any (ovB p m bd n) with
   | true=>
    have hpn:=(hpb true).2 hany;rw [hpn] at hk;have ih:=ih out0 aa (by simpa using hk);simp (disch:=try exact ac)[];refine aZ ?_;simp (disch:=try exact ac)[hre,clean,fF,oe,od,eC,ov,ob,kZ,szV,bU];exact ⟨⟨rfl,rfl,rfl,rfl⟩,by simpa [wiH,szV,bU] using ih⟩
   | false=>
    have hpn:=(hpb false).2 hany;rw [hpn] at hk;have ih:=ih (out0++[(n:Int)]) ak (by simpa using hk);simp (disch:=try exact ac)[];refine aZ ?_;simp (disch:=try exact ac)[li1];refine kY acW (k:=1) aa rfl cR (by rfl) rfl (fun t e=>by cases e) aa ae ?_
    simp (disch:=try exact ac)[cw,hre,clean,fF,oe,od,eC,ov,ob,kZ,szV,bU];exact ⟨⟨rfl,rfl,rfl,rfl,rfl⟩,by simpa [wiH,szV,bU,ev,eb] using ih⟩
theorem bxL {α:Type} (f:α->D) (l:List α) (s:Nat) (h:Hp) (k:V->Hp->Prop) (u:PU k):rh (iR s (lst f l) h) k u=rh (alV s [lst f l] h) k u:=id rfl
theorem NU {p:List Int} {l:List Rw} (G:uu p l) {lo hi m:Nat} (hlo:1<=lo) (hlh:lo<=hi) (hhi:hi<=100) (hN:l.length<=60) (hm:∀ r∈l,mzB p [r]=0) {bd:List Q} (b:KE p m bd) :
  CP Y F.bY [lst di p,mat l,.agg [I lo,I hi,szV bd]] (.tup [lst di (r8 (pI p l m bd) (hi+1-lo) lo),I 0]):=by
 refine nQ ?_;have hN20:p.length<=6:=G.i6.2.1;have pc:=dR (p:=p) aa;rw [G.pc] at pc;have ck:=kg (p:=p) (m:=l) aa aa;rw [qQ hN hm] at ck;have sc:=FL G.pc aa b.ln b.ok;have g1:¬ (lo:Int)<1:=aa;have g2:¬ (10000:Int)<(hi:Int):=aa;have g3:¬ (hi:Int)<(lo:Int):=aa
 have g4:¬ (500:Int)<=(hi:Int)-(lo:Int):=aa
 have wl:=Me (l2:=lo) G hhi hlo aa b (exK [((.exit 0),fun l38 h=>out (.tup [lst di (r8 (pI p l m bd) (hi+1-lo) lo),I 0]) (.tup [(ge l38 0),(.d (.int .i64 0))]) h)]) (wiH p lo hi lo bd [] (0,.none)) rfl (hi+1-lo) lo [] (.ptr 2 1 0 1) (0,.none) aa aa ak (.inl ⟨rfl,rfl,rfl⟩) (fun s=>by
  simp only [List.nil_append];generalize r8 (pI p l m bd) (hi+1-lo) lo=w;obtain ⟨h',q1,_⟩:=jP acW (L:=w.length) (cells:=w.map di) (h:=wiH p lo hi lo bd w s) rfl (by simp [acW]);simp only [exK];exact ax q1 rfl)
 simp (disch:=try exact ac)[bY,bxL];refine cd pc ?_;simp (disch:=try exact ac)[];refine cd ck ?_;simp (disch:=try exact ac)[g1,g2,g3,g4];refine cd sc ?_ (by simp [ai,aF,szV,bU]);simp (disch:=try exact ac)[];exact wl
theorem NT {p:List Int} {l:List Rw} (hp:pcB p=0) (hN20:p.length<=20) {lo hi:Nat} (h1:1<=lo) (h2:lo<=1000) (h3:hi=lo+500) (hN:l.length<=60) (hm:∀ r∈l,mzB p [r]=0) (bd:List Q) :
  CP Y F.bY [lst di p,mat l,.agg [I lo,I hi,szV bd]] (.tup [lst di [],I 3]):=by
 refine nQ ?_;have pc:=dR (p:=p) aa;rw [hp] at pc;have ck:=kg (p:=p) (m:=l) aa aa;rw [qQ hN hm] at ck;have g1:¬ (lo:Int)<1:=aa;have g2:¬ (10000:Int)<(hi:Int):=aa;have g3:¬ (hi:Int)<(lo:Int):=aa;have g4:(500:Int)<=(hi:Int)-(lo:Int):=aa;simp (disch:=try exact ac)[bY,bxL]
 refine cd pc ?_;simp (disch:=try exact ac)[];refine cd ck ?_;simp (disch:=try exact ac)[g1,g2,g3,g4];exact ⟨_,by simp [aF,ai,lst];exact rfl⟩
theorem NS {p:List Int} {l:List Rw} (hp:pcB p=0) (h0:0<p.length) (hN20:p.length<=20) {lo hi:Nat} (h1:1<=lo) (h2:lo<=hi) (h3:hi<=100) (hN:l.length<=60) (hm:∀ r∈l,mzB p [r]=0) :
  CP Y F.bY [lst di p,mat l,.agg [I lo,I hi,szV []]] (.tup [lst di [],I 5]):=by
 refine nQ ?_;have pc:=dR (p:=p) aa;rw [hp] at pc;have ck:=kg (p:=p) (m:=l) aa aa;rw [qQ hN hm] at ck;have sc:=IB (p:=p) (s:=[]) aa ag ag
 have e:siB p []=5:=by
  unfold siB scB;rw [if_pos hp,if_neg ak]
 rw [e] at sc;have sc:CP Y F.j3 [lst di p,szV []] (I 5):=sc;have g1:¬ (lo:Int)<1:=aa;have g2:¬ (10000:Int)<(hi:Int):=aa;have g3:¬ (hi:Int)<(lo:Int):=aa;have g4:¬ (500:Int)<=(hi:Int)-(lo:Int):=aa;simp (disch:=try exact ac)[bY,bxL];refine cd pc ?_;simp (disch:=try exact ac)[];refine cd ck ?_
 simp (disch:=try exact ac)[g1,g2,g3,g4];refine cd sc ?_ (by simp [ai,aF,szV,bU]);simp (disch:=try exact ac)[];exact ⟨_,by simp [aF,ai,lst];exact rfl⟩
abbrev I4:=Int × Int × Int × Int
def i4D (x:I4):List D:=[.int .i8 x.1,.int .i8 x.2.1,.int .i8 x.2.2.1,.int .i8 x.2.2.2]
theorem Na (x:I4):(i4D x).length=4:=rfl
def i4L (x:I4):List Int:=[x.1,x.2.1,x.2.2.1,x.2.2.2]
def ok4 (x:I4):Prop:=(-128<=x.1∧x.1<=127)∧(-128<=x.2.1∧x.2.1<=127)∧(-128<=x.2.2.1∧x.2.2.1<=127)∧(-128<=x.2.2.2∧x.2.2.2<=127)
def mkI (p:List Int) (x:I4):Rw:=itv p.length (i4L x)
def m3H (k:Nat) (e:List I4) (p:List Int) (i:Nat):Hp:=[(1,.vars [.d (.int .u8 k),bU i4D e]),acL.b i ((e.map fun x=>row (mkI p x)).take i)]
def m3V (e:List I4) (p:List Int) (i:Nat):V:=acL.v i ((e.map fun x=>row (mkI p x)).take i)
theorem MW {p:List Int} {e:List I4} {kk:Nat} (he:e.length<=6) (hb:∀ x∈e,ok4 x) (hp:p.length<=4) (k:KL) (h0:Hp) (hh:h0.length=2):∀ (f i:Nat),i+f=e.length ->
  k (.exit 0) [m3V e p e.length] (m3H kk e p e.length) ->
  lp (ja (CX Y) (.ptr 0 1 0 2) (lst di p)) [] h0 [m3V e p i,I i] (m3H kk e p i) k
 | 0,i,hi,hk=>by
  have:i=e.length:=aa;subst this;refine am ?_;unfold m3H at hk ⊢;simp (disch:=try exact ac)[ja];simpa using hk
 | f+1,i,hi,hk=>by
  have g:(i:Int)<(e.length:Int):=aa;have g6:(i:Int)<6:=aa;have hlt:i<e.length:=aa;obtain ⟨x,hx⟩:∃ x,x=nth (0,0,0,0) e i:=⟨_,rfl⟩;have hx2:e[i]? = some x:=by rw [hx,fK _ e i hlt];exact List.getElem?_eq_getElem hlt
  have hm:=hb x (Yo hx2);have io:CP Y F.dy [lst di p,.agg [i8V x.1,i8V x.2.1,i8V x.2.2.1,i8V x.2.2.2]] (lst di (mkI p x)):=KD hm.1 hm.2.1 hm.2.2.1 hm.2.2.2 hp;have i1:=fun h=>kT i4D Na e h (k:=.i64) (i:=(i:Int)) aa aa
  have i2:=fun h=>kS i4D Na (0,0,0,0) e h (j:=i) hlt
  rw [<- hx] at i2;simp only [Int.toNat_natCast] at i1;have i2':∀ h,ldA h 4 (.dptr (e.flatMap i4D) (i*4))=some (.agg [i8V x.1,i8V x.2.1,i8V x.2.2.1,i8V x.2.2.2]):=i2;have ih:=MW (kk:=kk) he hb hp k h0 hh f (i+1) aa hk
  have es:(e.map fun x=>row (mkI p x)).take (i+1)=(e.map fun x=>row (mkI p x)).take i++[row (mkI p x)]:=by
   rw [W6,List.getElem?_map,hx2];simp
  have lc:((e.map fun x=>row (mkI p x)).take i).length=i*acL.n:=by simp [acL];omega
  have li1:∀ (H:Hp),dF 1 [D.pl (Value.slice none 0 0)] [(0,lst di (mkI p x))] H=some ([row (mkI p x)],H):=fun H=>Eo ..
  have cw:∀ y z w:Nat × Bk,([y,z]:Hp).set acL.s w=[y,w]:=fun y z w=>rfl
  have hre:∀ y:Hp,y.length=2->aC [] 0 h0 y=y:=fun y hy=>bO 0 h0 y aa
  have ev:∀ c,acL.v (i+1) c=.ref acL.s (acL.e+1) 0 (i+1) (i+1) c.length:=fun c=>rfl
  have eb:∀ c,acL.b (i+1) c=(acL.e+1,.data acL.n c false false):=fun c=>rfl
  have ofv:offB [] (.vars [.d (.int .u8 kk),bU i4D e])=true:=rfl;have sn:∀ h,ai h [lst di p,.agg [i8V x.1,i8V x.2.1,i8V x.2.2.1,i8V x.2.2.2]]=some ([lst di p,.agg [i8V x.1,i8V x.2.1,i8V x.2.2.1,i8V x.2.2.2]],h):=fun h=>by simp [ai,aF,i8V]
  refine am ?_;simp (disch:=try exact ac)[ja,m3H,g,g6,i1,i2'];refine cd io ?_ (sn _);simp (disch:=try exact ac)[li1];unfold m3V;refine kY acL (k:=1) aa rfl lc (by rfl) rfl (fun t e=>by cases e) aa ae ?_;unfold m3V m3H at ih;rw [es] at ih
  simp (disch:=try exact ac)[cw,hre,clean,fF,oe,od,eC,kZ,ofv,ev,eb];refine ⟨rfl,?_⟩;have hmin:min i e.length=i:=aa;simpa [ev,eb,hmin] using ih
theorem vG {e:List I4} {k:Nat} (hk:k<256) (he:e.length<=6) (hb:∀ x∈e,ok4 x):CP Y F.dE [.agg [.d (.int .u8 k),bU i4D e]] (.tup [lst di (tV k),mat (e.map (mkI (tV k)))]):=by
 refine vW ?_;obtain ⟨p1,p2,p3,p4,p5⟩:=I9 _ (sJ k);obtain ⟨p,hp⟩:∃ p,p=tV k:=⟨_,rfl⟩;rw [<- hp] at p1 p2 p3 p4 p5 ⊢;have pk:=I7 hk;rw [<- hp] at pk;have lc:(e.map fun x=>row (mkI p x)).length=e.length*acL.n:=by simp [acL]
 have ll:=MW (p:=p) (kk:=k) he hb p4 (exK [((.exit 0),fun l5 h=>out (.tup [lst di p,mat (e.map (mkI p))]) (.tup [lst di p,(ge l5 0)]) h)]) (m3H k e p 0) rfl e.length 0 aa (by
  obtain ⟨h',q1,_⟩:=jP acL (L:=e.length) (cells:=e.map fun x=>row (mkI p x)) (h:=m3H k e p e.length) (by rw [m3H,Zx ag];rfl) lc;simp only [exK,m3V];rw [Zx ag];have em:mat (e.map (mkI p))=.d (.sl e.length (e.map fun x=>row (mkI p x))):=by simp [lst]
  rw [em];exact ax (sE _ _ _) q1)
 simp (disch:=try exact ac)[dE];refine cd pk ?_;simp (disch:=try exact ac)[];exact ll
theorem Rc {z:Int} {n:Nat} (h0:0<n) (h1:n<1000000000000000000) (h2 : -1000000000000000000<z) (h3:z<1000000000000000000):CP Y F.aU [I z,I n] (.agg (qT (gQ z n))):=by
 refine oc ?_;have fo:=JO (n:=z) (d:=(n:Int)) aa aa aa aa aa;rw [CG h0] at fo;have fo':CP Y F.jU [I z,I n] (.tup [.agg [S (itoa (gQ z n).1),S (ah (gQ z n).2)],I 0]):=fo;simp (disch:=try exact ac)[aU];refine cd fo' ?_;simp (disch:=try exact ac)[]
 exact lF rfl rfl
theorem Q8 {p:List Int} {l:List Rw} (G:uu p l) {n m:Nat} (n0:0<n) (n1:n<=100) (hN:l.length<1000000) {bd:List Q} (b:KE p m bd) (k:KL) (h0:Hp):∀ (q a:List Rw) (f:Bool),a++q=l->k (.exit 2) [B (f && !(q.any (ovB p m bd n)))] h0 ->
  lp (dS (CX Y) (lst di p) (mat l) (szV bd) (I n)) [] h0 [B f,I a.length] h0 k
 | [],a,f,ha,hk=>by
  simp at ha;subst ha;have ll:bm (mat a)=some (I a.length):=rfl;refine am ?_;simp (disch:=try exact ac)[dS,ll];simpa using hk
 | r::q,a,f,ha,hk=>by
  have hr:r∈l:=by subst ha;simp
  have hal:a.length<l.length:=by subst ha;simp
  have ll:bm (mat l)=some (I l.length):=rfl;have g:(a.length:Int)<(l.length:Int):=aa;have en:nth [] l a.length=r:=by subst ha;simp
  obtain ⟨a1,a2,a3,a4,a5,a6⟩:=DI G hr n0 n1;have hN6:=G.i6.2.1;have e1:1000*n<=1000*100:=Z5 _ n1;have e2:8645700*m<=8645700*1000:=Z5 _ b.m1;have oa:=nY n0 a2 aa aa;have cs:=aaU G.i6 a1 b.ln n0 b.m0 a2 b.bd aa;have co:=DO G.pc aa a1 b.ln oa b.ok cs
  have ev:decide ((vlS p n (kX p n r)*m-vlS p m bd*n).sign<=0) = !(ovB p m bd n r):=by
   unfold ovB;rw [<- decide_not];refine decide_eq_decide.2 ?_;have:=sign_neg (x:=vlS p m bd*n-vlS p n (kX p n r)*m);rw [<- Int.neg_sub,Int.sign_neg];constructor
   ·intro h;have h':¬ ((vlS p m bd*n-vlS p n (kX p n r)*m).sign<0):=aa;rw [this] at h';omega
   ·intro h;have h':¬ ((vlS p m bd*n-vlS p n (kX p n r)*m)<0):=aa;rw [<- this] at h';omega
  obtain ⟨z,hz⟩:∃ z,z=(vlS p n (kX p n r)*m-vlS p m bd*n).sign:=⟨_,rfl⟩;rw [<- hz] at co ev;have sn:∀ (h:Hp) (x y:List Q),ai h [lst di p,szV x,szV y]=some ([lst di p,szV x,szV y],h):=fun h x y=>by simp [ai,szV,bU]
  have lm:=T7 l (j:=a.length);rw [en] at lm
  have ih:=Q8 G n0 n1 hN b k h0 q (a++[r]) (f && !(ovB p m bd n r)) (by simpa using ha) (by
   have:(f && !ovB p m bd n r && !(q.any (ovB p m bd n)))=(f && !((r::q).any (ovB p m bd n))):=by rw [List.any_cons];cases f <;> cases ovB p m bd n r <;> rfl
   rw [this];exact hk)
  have hN':(a.length:Int)<1000000:=aa;refine am ?_;simp (disch:=try exact ac)[dS,ll,g,lm];refine cd a6 ?_;simp (disch:=try exact ac)[];refine cd co ?_ (sn _ _ _);cases f with
  | true=>
   simp (disch:=try exact ac)[ev];simpa using ih
  | false=>
   simp (disch:=try exact ac)[ev];simpa using ih
def vk:Acc:=⟨2,0,1,.none⟩
theorem Q9 {p:List Int} {l:List Rw} (G:uu p l) {hi m:Nat} (hhi:hi<=100) (hN:l.length<1000000) {bd:List Q} (b:KE p m bd) (k:KL) (x0 x1:Nat × Bk) (h0:Hp) (hh:h0.length=3):∀ (f n:Nat) (out0:List Int),n+f=hi+1->0<n->out0.length<n ->
  k (.exit 0) [vk.v (out0++r8 (pI p l m bd) f n).length ((out0++r8 (pI p l m bd) f n).map di)] [x0,x1,vk.b (out0++r8 (pI p l m bd) f n).length ((out0++r8 (pI p l m bd) f n).map di)] ->
  lp (dT (CX Y) (lst di p) (mat l) (I hi) (szV bd)) [] h0 [vk.v out0.length (out0.map di),I n] [x0,x1,vk.b out0.length (out0.map di)] k
 | 0,n,out0,hf,hn,ho,hk=>by
  have g:¬ (n:Int)<=(hi:Int):=aa;refine am ?_;simp (disch:=try exact ac)[dT,g];simpa [r8] using hk
 | f+1,n,out0,hf,hn,ho,hk=>by
  have g:(n:Int)<=(hi:Int):=aa;have li1:∀ (z:Int) (H:Hp),dF 1 [D.int IntKind.i64 0] [(0,I z)] H=some ([di z],H):=fun z H=>by simp [dF,gC,jy,toD,di]
  have cR:(out0.map di).length=out0.length*vk.n:=by simp [vk]
  have cw:∀ a b c x:Nat × Bk,([a,b,c]:Hp).set vk.s x=[a,b,x]:=fun _ _ _ _=>rfl
  have ev:∀ c,vk.v (out0.length+1) c=.ref vk.s (vk.e+1) 0 (out0.length+1) (out0.length+1) c.length:=fun c=>rfl
  have eb:∀ c,vk.b (out0.length+1) c=(vk.e+1,.data vk.n c false false):=fun c=>rfl
  have ih:=fun o2 ho2 hk2=>Q9 G hhi hN b k x0 x1 h0 hh f (n+1) o2 aa aa ho2 hk2
  rw [r8] at hk;refine am ?_;simp (disch:=try exact ac)[dT,g];refine aZ ?_;simp (disch:=try exact ac)[];refine lo (Q8 G (n:=n) hn aa hN b _ _ l [] true rfl ?_);rw [show (true && !(l.any (ovB p m bd n)))=pI p l m bd n from rfl];simp only [exK,O0];cases hp:pI p l m bd n with
  | true=>
   rw [hp] at hk;have ih:=ih (out0++[(n:Int)]) ak (by simpa using hk);simp (disch:=try exact ac)[];refine aZ ?_;simp (disch:=try exact ac)[li1];refine kY vk (k:=1) aa rfl cR (by rfl) rfl (fun t e=>by cases e) aa ae ?_;simp (disch:=try exact ac)[cw];simpa [ev,eb] using ih
  | false=>
   rw [hp] at hk;have ih:=ih out0 aa (by simpa using hk);simp (disch:=try exact ac)[];refine aZ ?_;simp (disch:=try exact ac)[];simpa using ih
theorem VF (a b:Int) (s:List Q):bld [(0,1),(1,1),(2,1)] [.int .i64 0,.int .i64 0,.pl (.slice none 0 0)] [(0,I a),(1,I b),(2,szV s)]=some (.agg [I a,I b,szV s]):=by
 simp [bld,lS,pD,szV,bU]
theorem aa2 (a b:Int):bld [(0,1),(1,1),(2,1)] [.int .i64 0,.int .i64 0,.pl (.slice none 0 0)] [(0,I a),(1,I b)]=some (.agg [I a,I b,.d (.pl (.slice none 0 0))]):=by
 simp [bld,lS,pD]
theorem HP (pass:Nat->Bool):∀ f n:Nat,(r8 pass f n).length<=f
 | 0,n=>by simp [r8]
 | f+1,n=>by
  have:=HP pass f (n+1);simp only [r8];split
  ·simp only [List.length_cons];omega
  ·omega
theorem LC {k x y z:Nat} {e:List I4} (hk:k<256) (hx:x<256) (hy:y<256) (hz:z<256) (hb:∀ x∈e,ok4 x):CP Y F.bG [.agg [.d (.int .u8 k),bU i4D e],.agg [.d (.int .u8 x),.d (.int .u8 y),.d (.int .u8 z)]] (B true):=by
 refine oX ?_;by_cases h3:3<e.length
 ·have g3:(3:Int)<(e.length:Int):=aa;simp (disch:=try exact ac)[bG];refine cd fw ?_;simp (disch:=try exact ac)[g3];refine cd fw ?_;simp (disch:=try exact ac)[]
 ·have g3:¬ (3:Int)<(e.length:Int):=aa;obtain ⟨p1,p2,p3,p4,p5⟩:=I9 _ (sJ k);have mo:=vG (e:=e) hk aa hb;obtain ⟨p,hp⟩:∃ p,p=tV k:=⟨_,rfl⟩;rw [<- hp] at p1 p2 p3 p4 p5 mo;obtain ⟨n,hn⟩:∃ n,n=x % 70+1:=⟨_,rfl⟩;obtain ⟨hi,hhi⟩:∃ hi,hi=n+y % 30:=⟨_,rfl⟩;have en:1+(x:Int) % 70=(n:Int):=by rw [hn];omega
  have eh:(n:Int)+(y:Int) % 30=(hi:Int):=by rw [hhi];omega
  obtain ⟨h5,hh5⟩:∃ h5,h5=n+500:=⟨_,rfl⟩;have eh2:(n:Int)+500=(h5:Int):=aa;have m1:0<=(x:Int) % 70∧(x:Int) % 70<70:=aa;have m2:0<=(y:Int) % 30∧(y:Int) % 30<30:=aa;have snD:∀ h:Hp,ai h [.agg [.d (.int .u8 k),bU i4D e]]=some ([.agg [.d (.int .u8 k),bU i4D e]],h):=fun h=>by simp [ai,aF,bU]
  have eq:=zr p1 aa p3;have nu:=Rc (z:=(z:Int)) (n:=240) aa aa aa aa;have bdb:bdL 240 (z:Int).natAbs (bdS p z 240):=YB p3 aa
  have bdi:KE p 240 (bdS p z 240):=⟨aa,aa,U1 p3 aa,fun q hq=>by
   obtain ⟨a,r1,r2⟩:=bdb q hq;exact ⟨a,r1,aa⟩⟩
  have ql:okQ (gQ (z:Int) 240)∧qL 30 (gQ (z:Int) 240):=⟨rC _ aa,CH (bf (d:=30) (by show _<10 ^ 30;omega) ae) (bf (d:=30) ae ae)⟩;have sca:=uP (p:=p) (s:=eJ p.length) (k:=gQ z 240) p1 aa (by simp [eJ];omega) (wV _) ql bdi.ok
  have sca:CP Y F.fk [lst di p,szV (eJ p.length),.agg (qT (gQ z 240))] (.tup [szV (bdS p z 240),I 0]):=sca;obtain ⟨bd,hbd⟩:∃ bd,bd=bdS p z 240:=⟨_,rfl⟩;rw [<- hbd] at bdi sca
  have gds:uu p (e.map (mkI p)):=⟨p1,⟨p2,aa,p5⟩,p3,fun r hr=>by
    obtain ⟨y,_,rfl⟩:=Zi.1 hr;exact ⟨Br rfl p4,G4 _ _⟩⟩
  have hmz:∀ r∈e.map (mkI p),mzB p [r]=0:=fun r hr=>wR p1 (gds.rw r hr).1 (wz (gds.rw r hr).2)
  have lle:(e.map (mkI p)).length<=3:=by rw [List.length_map];omega
  obtain ⟨l,hl⟩:∃ l,l=e.map (mkI p):=⟨_,rfl⟩;rw [<- hl] at gds hmz lle mo;have w1:=NU gds (lo:=n) (hi:=hi) aa aa aa aa hmz bdi;have w2:=NT (lo:=n) (hi:=h5) p1 aa aa aa hh5 aa hmz bd;have w3:=NS (lo:=n) (hi:=hi) p1 p3 aa aa aa aa aa hmz
  obtain ⟨w,hw⟩:∃ w,w=r8 (pI p l 240 bd) (hi+1-n) n:=⟨_,rfl⟩;have wl':=HP (pI p l 240 bd) (hi+1-n) n;rw [<- hw] at w1 wl';have so:=zV (s:=w) (t:=w) aa;rw [decide_eq_true rfl] at so;have snQ:∀ (h:Hp) (x:List Q) (y:Q),ai h [lst di p,szV x,.agg (qT y)]=some ([lst di p,szV x,.agg (qT y)],h):=fun h x y=>by simp [ai,aF,szV,bU,qT]
  have snW:∀ (h:Hp) (a b:Int) (x:List Q),ai h [lst di p,mat l,.agg [I a,I b,szV x]]=some ([lst di p,mat l,.agg [I a,I b,szV x]],h):=fun h a b x=>by simp [ai,aF,szV,bU]
  have snN:∀ (h:Hp) (a b:Int),ai h [lst di p,mat l,.agg [I a,I b,.d (.pl (.slice none 0 0))]]=some ([lst di p,mat l,.agg [I a,I b,szV []]],h):=fun h a b=>by simp [ai,aF,szV,bU,norm]
  simp (disch:=try exact ac)[bG];refine cd fw ?_;simp (disch:=try exact ac)[g3];refine cd mo ?_ (snD _);simp (disch:=try exact ac)[Zv,m1,en,m2,eh];refine cd eq ?_;simp (disch:=try exact ac)[];refine cd nu ?_;simp (disch:=try exact ac)[]
  refine cd sca ?_ (snQ _ _ _);simp (disch:=try exact ac)[VF];refine cd w1 ?_ (snW _ _ _ _);simp (disch:=try exact ac)[VF,eh2];refine cd w2 ?_ (snW _ _ _ _);simp (disch:=try exact ac)[aa2];refine cdx (snN _ _ _) w3 ?_;simp (disch:=try exact ac)[]
  refine lo (Q9 gds aa aa bdi _ _ _ _ rfl (hi+1-n) n [] aa aa ak ?_);rw [List.nil_append,<- hw];simp (disch:=try exact ac)[]
  obtain ⟨h',q1,_⟩:=jP vk (L:=w.length) (cells:=w.map di) (h:=[(1,.vars [.d (.int .u8 k),bU i4D e]),(1,.vars [.d (.int .u8 x),.d (.int .u8 y),.d (.int .u8 z)]),vk.b w.length (w.map di)]) rfl (by simp [vk]);refine cdz (ds:=[lst di w,lst di w]) (h':=h') (by simp only [ai,sE,q1];rfl) so ?_;simp (disch:=try exact ac)[]
end Go.Vm
