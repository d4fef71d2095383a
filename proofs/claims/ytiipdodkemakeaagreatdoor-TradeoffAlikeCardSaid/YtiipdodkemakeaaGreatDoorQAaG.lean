/- Lemmas. -/
import Derived.Test.YtiipdodkemakeaaGreatDoorQRefRow
set_option linter.unusedVariables false
set_option linter.unusedSimpArgs false
namespace Go.Vm
open Go Go.Am Go.Big
variable{x y r to fr:LiQ}{k i n Bd f E j t most:Nat}{m:Mz}{s bd:List Q}{d c' z C div:Int}{cs:LwQ}{o:Nat×Bk}{ch:List LLQ}
def ahq(n:Nat)(p:Int):Bool:=(Jv p.toNat n).isSome&&decide (2^n<=lg p n)&&decide (lg p n+1<=8*2^n)
theorem ah3:∀p∈c6P,∀i∈List.range 6,ahq (64*2^i) p=true:=az
theorem aeY{x:Nat}(hk:1<=k)(h:x<2^(3*k)):ndg x<=k:=by refine cQ (Z3 h ?_) hk;rw[V6];exact Nat.pow_le_pow_left af k
theorem WT{x m:Nat}(hk:1<=k)(hm:m+3<=3*k)(h:x+1<=8*2^m):ndg x<=k:=by
 refine aeY hk (Z3 (Z3 (Nat.lt_succ_self x) h) ?_);have e:8*2^m=2^(m+3):=by rw[Yk,Zq]
 rw[e];exact Z4 af hm
theorem ad8:∀p∈c6P,2<=p∧p<128:=af
theorem ah4{p:Int}(hp:p∈c6P)(hi:i<6):(Jv p.toNat (64*2^i)).isSome=true∧2^(64*2^i)<=lg p (64*2^i)∧lg p (64*2^i)+1<=8*2^(64*2^i):=by have:=ah3 p hp i (Yl.2 hi);simp only[ahq,Z7,decide_eq_true_eq]at this;exact⟨this.1.1,this.1.2,this.2⟩
theorem afK{ts:List (Int×Int)}(h:∀t∈ts,t.1∈c6P):HU ts:=by intro i hi t ht;obtain⟨h1,h2,h3⟩:=ah4 (h t ht) hi;obtain⟨p1,p2⟩:=ad8 _ (h t ht);refine⟨p1,aa,h1,?_⟩;obtain⟨k,hk⟩:=nmQ (1500);rw[<-hk];refine WT aa ?_ h3;have:2^i<=2^5:=Z4 af aa;omega
def rp(b:Nat)(x:Q)(a:Int):Prop:=okQ x∧x.1*(b:Int)=a*(x.2:Int)
theorem I8{b:Nat}{x:Q}{a:Int}(h:rp b x a):x.2∣b:=by
 have h1:x.1.natAbs*b=a.natAbs*x.2:=by
  have:=congrArg Int.natAbs h.2;simpa[Zl]using this
 have h2:x.2∣x.1.natAbs*b:=⟨a.natAbs,by rw[h1,Zq]⟩;exact Nat.Coprime.dvd_of_dvd_mul_left (Nat.Coprime.symm h.1.2) h2
theorem U6{b:Nat}{x:Q}{a:Int}(hb:0<b)(h:rp b x a):x.1.natAbs*(b/x.2)=a.natAbs:=by
 obtain⟨m,hm⟩:=I8 h
 have h1:x.1.natAbs*b=a.natAbs*x.2:=by
  have:=congrArg Int.natAbs h.2;simpa[Zl]using this
 have p:=h.1.1;rw[hm,Xt _ p];refine Nat.eq_of_mul_eq_mul_right p ?_;rw[<-h1,hm,Nat.mul_assoc,Zq m]
theorem agY{b:Nat}{x:Q}{a:Int}(hb:0<b)(h:rp b x a):x.1.natAbs<=a.natAbs∧x.2<=b:=by have h1:=U6 hb h;have h2:=Xb hb (I8 h);have h3:1<=b/x.2:=(Xk h.1.1).2 aa;refine⟨?_,h2⟩;rw[<-h1];exact Y7 _ h3
def bdL(b B:Nat)(s:List Q):Prop:=∀x∈s,∃a:Int,rp b x a∧a.natAbs<=B
theorem afQ{b B:Nat}(hb:0<b)(h:bdL b B s)(h1:b<1000000000000000000000000000000)(h2:B<1000000000000000000000000000000):okS s:=fun x hx=>by
 obtain⟨a,r1,r2⟩:=h x hx;obtain⟨l1,l2⟩:=agY hb r1;exact⟨r1.1,cQ (d:=30) (by show _<10^30;omega) af,cQ (d:=30) (by show _<10^30;omega) af⟩
def in6(p:LiQ):Prop:=p.Nodup∧p.length<=6∧∀x∈p,x∈c6P
structure akI(p:LiQ)(n:Nat)(r:LiQ)(q:Int):Prop where
 hp:pcB p=0
 hN:p.length<=20
 hl:0<p.length
 h0:0<n
 h1:n<=10000
 lr:r.length=p.length
 sr:smR r=true
 st:okS (Hf p n)
 of:okS (ofQ r)
 q1 : -1000000000000000000<q
 q2:q<1000000000000000000
 ti:okS (NL p n q)
 er:okS (Qs p n q (ofQ r))
def acL:Acc:=⟨1,0,1,.none⟩
def sU:LLQ:=[[2,3,5],[2,3,5,7],[2,3],[2,3,7],[2,5,7],[3,5,7],[2,3,5,11],[2],[2,3,7,13],[3,5,7,13]]
def k9(k:Nat):LiQ:=sU.getD (k%10) []
theorem LH(hk:k<256):CP Y F.eC [.d (.int .u8 k)] (lst di (k9 k)):=by
 refine vf ?_;have c1:cvI .i64 (.d (.int .u8 (k:Int)))=some (I k):=by rw[Rq,wrap_i64 ⟨aa,aa⟩]
 have m1:biI .rem (I (k:Int)) (I 10)=some (I ((k%10:Nat):Int)):=by
  rw[adg aa,Zt aa];congr 3
 have hkk:k%10<10:=Yu _ af;have i1:=fun H:Hp=>nQ row sU H (k:=.i64) (i:=((k%10:Nat):Int)) aa (by show((k%10:Nat):Int)<10;omega)
 have i2:=fun H:Hp=>gn row [] sU H (j:=k%10) hkk
 have hn:nth [] sU (k%10)=k9 k:=rfl;rw[hn]at i2;generalize k%10=j at *;simp only[Int.toNat_natCast]at i1;simp(disch:=try exact ac)[eC,eV,gW,jj,toD,c1];have hw:IntKind.wrap .i64 (k:Int)=(k:Int):=wrap_i64 ⟨aa,aa⟩
 show rn (bnd (aY (lst row sU))) (fun v13=>bnd (biI .rem (.d (.int .i64 (IntKind.i64.wrap k))) v13) fun v14=>bnd (ixV [] 1 (lst row sU) v14) fun v15=>bnd (ld1 [] v15) fun v16=>out (lst di (k9 k)) v16 []) .mk
 have l10:aY (lst row sU)=some (I 10):=rfl;rw[hw,l10];rw[aeJ];rw[show biI .rem (.d (.int .i64 (k:Int))) (I 10)=some (I (j:Int))from m1];rw[Ac,i1,Ac,i2,Ac];exact abW ..
def itv(l:Nat)(e:LiQ):LiQ:=(e.take l).map fun x=>x.tmod 10
def i8V(x:Int):V:=.d (.int .i8 x)
def itH(e:LiQ)(L:Nat)(c:LdQ):Hp:=[(1,.vars (e.map i8V)),acL.b L c]
theorem WI:∀e:LiQ,offB [] (.vars (e.map i8V))=true
 |[]=>rfl
 | x::e=>by
  have:=WI e;rw[HK]at this ⊢;simp[iX,pN,i8V];simpa[i8V]using this
theorem Mw{p:LiQ}{e:LiQ}(he:e.length=4)(hb:∀x∈e,-128<=x∧x<=127)(hp:p.length<=4)(k:KL)(h0:Hp)(hh:h0.length=2):∀(f i:Nat),i+f=p.length ->
  k (.exit 0) [acL.v (itv p.length e).length ((itv p.length e).map di)] (itH e (itv p.length e).length ((itv p.length e).map di)) ->
  lp (gQ (CX Y) (lst di p) (.ptr 0 1 0 4)) [] h0 [acL.v (itv i e).length ((itv i e).map di),I i] (itH e (itv i e).length ((itv i e).map di)) k
 | 0,i,hi,hk=>by
  have g:¬(i:Int)<(p.length:Int):=aa;have:i=p.length:=aa;subst this;have l1:aY (lst di p)=some (I p.length):=rfl;refine ak ?_;simp(disch:=try exact ac)[gQ,l1];exact hk
 | f+1,i,hi,hk=>by
  have g:(i:Int)<(p.length:Int):=aa;have g2:(i:Int)<4:=aa;have l1:aY (lst di p)=some (I p.length):=rfl;obtain⟨x,hx⟩:∃x,e[i]?=some x:=⟨e[i]'(by omega),List.getElem?_eq_getElem aa⟩;have hxm:=hb x (Xu hx);have li:(itv i e).length=i:=by simp[itv];omega
  have ih:=Mw he hb hp k h0 hh f (i+1) aa hk
  have es:itv (i+1) e=itv i e++[x.tmod 10]:=by
   unfold itv;rw[List.take_add_one,hx];simp
  rw[es]at ih;have hlt:i<e.length:=aa
  have hxe:e[i]=x:=by
   have:=List.getElem?_eq_getElem hlt;rw[hx]at this;simpa using this.symm
  have he':4=e.length:=he.symm;have r1 : -10<x.tmod 10:=Int.lt_tmod_of_pos x af;have r2:=Int.tmod_lt_of_pos x (b:=10) af;have li1:∀(z:Int)(H:Hp),eV 1 [D.int IntKind.i64 0] [(0,V.d (D.int IntKind.i64 z))] H=some ([di z],H):=fun z H=>by simp[eV,gW,jj,toD,di]
  have cR:((itv i e).map di).length=(itv i e).length*acL.n:=by simp[acL]
  have bL:∀x y:Nat×Bk,([(1,.vars (e.map i8V)),x]:Hp).set acL.s y=[(1,.vars (e.map i8V)),y]:=fun x y=>rfl
  have hre:∀x:Hp,x.length=2->aO [] 0 h0 x=x:=fun x hx=>pL 0 h0 x aa
  have ev:∀c,acL.v ((itv i e).length+1) c=.ref acL.s (acL.e+1) 0 ((itv i e).length+1) ((itv i e).length+1) c.length:=fun c=>rfl
  have eb:∀c,acL.b ((itv i e).length+1) c=(acL.e+1,.data acL.n c false false):=fun c=>rfl
  refine ak ?_;simp(disch:=try exact ac)[gQ,l1,g,g2,itH,he',hxe,i8V,li1];refine oh acL (k:=1) aa rfl cR (by rfl) rfl (fun t e=>by cases e) aa af ?_;have hoff:=WI e;simp(disch:=try exact ac)[bL,hre,clean,iX,HI,HG,gX,pN,hoff];refine⟨rfl,?_⟩;simpa[ev,eb,itH]using ih
theorem Cm{p:LiQ}{a b c:Int}(ha : -128<=a∧a<=127)(hb : -128<=b∧b<=127)(hc : -128<=c∧c<=127)(hd : -128<=d∧d<=127)(hp:p.length<=4):CP Y F.b9 [lst di p,.agg [i8V a,i8V b,i8V c,i8V d]] (lst di (itv p.length [a,b,c,d])):=by
 refine tK ?_
 have hl:=Mw (p:=p) (e:=[a,b,c,d]) rfl (by
  intro x hx;simp only[Zx,Yp,or_false]at hx;rcases hx with rfl|rfl|rfl|rfl<;>assumption) hp (exK [((.exit 0),fun l2 h=>out (lst di (itv p.length [a,b,c,d])) (ge l2 0) h)]) [(1,.vars [i8V a,i8V b,i8V c,i8V d]),nnQ] rfl p.length 0 aa (by
  obtain⟨h',q1,_⟩:=nY acL (L:=(itv p.length [a,b,c,d]).length) (cells:=(itv p.length [a,b,c,d]).map di) (h:=itH [a,b,c,d] (itv p.length [a,b,c,d]).length ((itv p.length [a,b,c,d]).map di)) rfl (by simp[acL]);simp only[exK];exact⟨h',q1⟩)
 simp(disch:=try exact ac)[b9];exact hl
theorem HE(k:Nat):k9 k∈sU:=by simp[k9,sU,Yu]
theorem adM:∀l∈sU,pcB l=0∧l.Nodup∧0<l.length∧l.length<=4∧∀x∈l,x∈c6P:=by trivial
def ajO:LLQ:=[[2,3,5],[2,3],[2,3,5,7],[2,3,7],[3,5,7],[2],[2,5,7],[2,3,11],[2,3,5,13],[2,3,7,11]]
abbrev Rw:=LiQ
structure aks(p:LiQ)(n:Nat)(l:List Rw)(qf:Rw->Int):Prop where
 hN:l.length<=60
 hE:∀r∈l,aig p n r (qf r)
structure akJ(p:LiQ)(n:Nat)(l:List Rw)(qf:Rw->Int):Prop where
 cn:aks p n l qf
 pl:p.length<=6
 r9:∀r∈l,∀x∈r,x.natAbs<=9
theorem Sx(hx:x.length<1000000000)(hy:y.length<1000000000):CP Y F.pK [lst di x,lst di y] (B (decide (x=y))):=by refine Lp ?_;simp(disch:=try exact ac)[pK];refine cd (Ch hx hy) ?_;simp(disch:=try exact ac)
def pA(c:Int)(m:LLQ):V:=.agg [I c,mat m]
theorem S4{c:Int}{m m':LLQ}(hm:m.length<1000000)(hm':m'.length<1000000)(h2:∀r∈m,r.length<1000000)(h3:∀r∈m',r.length<1000000):
  CP Y F.jZ [pA c m,pA c' m'] (B (decide (c=c'∧m=m'))):=by
 refine CB ?_;simp only[jZ,pA];have eq:=ZL (g:=F.pK) (fun x y hx hy=>Sx (x:=x) (y:=y) aa aa) hm hm' h2 h3;by_cases e:c=c'
 .simp(disch:=try exact ac)[e];refine cd eq ?_ (by simp[ai,aD,mat,lst,norm]);exact fC (by simp[e])
 .simp(disch:=try exact ac)[e]
def OF(n:Int):Bool:=decide (n>1000000000)||decide (n < -1000000000)
theorem R6(n:Int):CP Y F.oE [I n] (B (OF n)):=by
 refine Gk ?_;simp[oE];by_cases h:n>1000000000
 .simp[h]
  grind[fC,OF]
 .simp(disch:=try exact ac)[h]
  grind[fC,OF]
def Gj(c:Nat):LLQ->Int
 |[]=>0
 |r::q=>if 12<r.length then 4 else if r.length≠c then 5 else if r.any OF=true then 4 else Gj c q
def tcB(m:LLQ):Int:=if 12<m.length then 4 else Gj (nth [] m 0).length m
theorem Hb{m:LLQ}(hm:m.length<1000000)(hr:∀r∈m,r.length<1000000)(K:KL):∀(q a:LLQ),m=a++q->(Gj (nth [] m 0).length q=0->K (.exit 0) [] [])->(Gj (nth [] m 0).length q≠0->K .ret [I (Gj (nth [] m 0).length q)] []) ->
  lp (oV (CX Y) (mat m) (mat m) (I m.length)) [] [] [I a.length] [] K
 | [],a,e,h0,h1=>by
  simp only[Zj]at e;subst e;refine ak ?_;have hlt:¬((m.length:Int)<(m.length:Int)):=aa;simp only[oV];simp[hlt];exact h0 rfl
 | r::q,a,e,h0,h1=>by
  refine ak ?_;have hlt:((a.length:Int)<(m.length:Int)):=by rw[e];simp;omega
  have hl:a.length<m.length:=aa;have hrm:r∈m:=by rw[e];simp
  have i1:ixV [] 1 (mat m) (I a.length)=some (.dptr (m.map row) a.length):=by rw[e];exact oz row a r q _ _
  have i2:ld1 [] (.dptr (m.map row) a.length)=some (lst di r):=by
   rw[lK row m _ hl];simp only[e,Zk (Z8 _),Za,Zf];rfl
  have j1:ixV [] 1 (mat m) (.d (.int .i64 0))=some (.dptr (m.map row) 0):=iC row m [] rfl aa;have j2:ld1 [] (.dptr (m.map row) 0)=some (lst di (nth [] m 0)):=gn row [] m [] aa;simp only[oV];simp only[Gj]at h0 h1;by_cases g1:12<r.length
  .have g1':((r.length:Int)>12):=aa;rw[if_pos g1]at h0 h1;simp[hlt,i1,i2,g1']
   grind
  .have g1':¬((r.length:Int)>12):=aa;rw[if_neg g1]at h0 h1;by_cases g2:r.length≠(nth [] m 0).length
   .have g2':(r.length:Int)≠((nth [] m 0).length:Int):=aa;rw[if_pos g2]at h0 h1;simp[hlt,i1,i2,g1',j1,j2,g2']
    grind
   .have g2':(r.length:Int)=((nth [] m 0).length:Int):=aa;rw[if_neg g2]at h0 h1;simp(disch:=try exact ac)[hlt,i1,i2,g1',j1,j2,g2'];refine cd (wL r aa fun x _=>R6 x) ?_;by_cases g3:r.any OF=true
    .rw[if_pos g3]at h0 h1;simp[g3]
     grind
    .rw[if_neg g3]at h0 h1;have g3':r.any OF=false:=by simpa using g3
     simp(disch:=try exact ac)[g3'];have ih:=Hb hm hr K q (a++[r]) (by simp[e]) h0 h1;have e2:((a++[r]).length:Int)=(a.length:Int)+1:=ae
     simp_all
theorem R9{m:LLQ}(hm:m.length<1000000)(hr:∀r∈m,r.length<1000000):CP Y F.oG [mat m] (I (tcB m)):=by
 refine Gl ?_;simp only[oG];have l1:aY (mat m)=some (I m.length):=rfl;by_cases g:12<m.length
 .have g':((m.length:Int)>12):=aa;simp[l1,g']
  grind[ba,tcB]
 .have g':¬((m.length:Int)>12):=aa;simp[l1,g'];refine lo (Hb hm hr _ m [] rfl (fun e=>?_) (fun e=>?_))
  .simp
   grind[ba,tcB]
  .simp
   grind[ba,tcB]
theorem YS(n:Int):CP Y F.jh [I n] (B (n !=0)):=by
 refine yr ?_;simp[jh]
 grind[fC]
theorem acy(hr:r.length<4611686018427387904):CP Y F.mg [lst di r] (I (piv r)):=by refine CG ?_;simp[mg];refine cd (Cf r hr fun n _=>YS n) ?_;exact ba rfl
theorem CY{g:FuncId}{p:LiQ->Bool}(hs:∀x:LiQ,ai [] ([lst di x]++cs)=some ([lst di x]++cs,[]))(hc:ai [] cs=some (cs,[]))(l:LLQ)(hN:l.length<1000000)(hp:∀x∈l,CP Y g ([lst di x]++cs) (B (p x))):
  CP Y F.aR [mat l,.fn g [] cs] (B (l.any p)):=by
 refine mr ?_;simp[aR];refine cd (v:=I (idx p l)) (nf (JI (f:=row) (fs:=[]) (cs:=cs) l aa hs hp)) ?_ ?_
 .simp;have:=Dq p l;have e:decide (0<=idx p l)=l.any p:=by rw[X4];simpa using this
  simp_all
 simp_all[ai,aD]
def upF(p:Nat)(r o:LiQ):Bool:=decide (nth 0 o p<0)||decide (nth 0 o p≥nth 0 r p)
theorem aep{p:Nat}{o:LiQ}(hr:p<r.length)(ho:p<o.length):CP Y F.eM [lst di o,.dptr [.int .i64 p] 0,.dptr [row r] 0] (B (upF p r o)):=by
 refine xB ?_;simp only[eM];have d1:∀h:Hp,ld1 h (.dptr [.int .i64 (p:Int)] 0)=some (I p):=fun h=>rfl
 have d2:∀h:Hp,ld1 h (.dptr [row r] 0)=some (lst di r):=fun h=>rfl
 have i1:ixV [] 1 (lst di o) (I p)=some (.dptr (o.map di) p):=iC di o [] rfl ho;have i2:ld1 [] (.dptr (o.map di) p)=some (I (nth 0 o p)):=gn di 0 o [] ho;have i3:ixV [] 1 (lst di r) (I p)=some (.dptr (r.map di) p):=iC di r [] rfl hr;have i4:ld1 [] (.dptr (r.map di) p)=some (I (nth 0 r p)):=gn di 0 r [] hr;by_cases h:nth 0 o p<0
 .simp[d1,d2,i1,i2,i3,i4,h]
  grind[fC,upF]
 .simp[d1,d2,i1,i2,i3,i4,h]
  grind[fC,upF]
def JK:Int->LLQ->LLQ->Bool
 |_,_,[]=>true
 |before,done,r::q=>if piv r<=before∨nth 0 r (piv r).toNat<0 then false else if done.any (upF (piv r).toNat r)=true then false else JK (piv r) (done++[r]) q
theorem Fo{m:LLQ}{c:Nat}(hm:m.length<1000000)(hc:c<1000000)(hr:∀r∈m,r.length=c)(K:KL):∀(q a:LLQ)(b:Int),-1<=b->m=a++q->(JK b a q=true->∀h,K (.exit 0) [] h)->(JK b a q=false->∀h,K .ret [B false] h) ->
  lp (mK (CX Y) (mat m) (mat m) (I m.length)) [0,1] [nnQ,nnQ] [I b,I a.length] [nnQ,nnQ] K
 | [],a,b,hb,e,h0,h1=>by
  simp only[Zj]at e;subst e;refine ak ?_;have hlt:¬((m.length:Int)<(m.length:Int)):=aa;simp only[mK];simp[hlt];exact h0 rfl _
 | r::q,a,b,hb,e,h0,h1=>by
  refine ak ?_;have hlt:((a.length:Int)<(m.length:Int)):=by rw[e];simp;omega
  have hl:a.length<m.length:=aa;have hrm:r∈m:=by rw[e];simp
  have hrl:r.length=c:=hr r hrm;have i1:∀h:Hp,ixV h 1 (mat m) (I a.length)=some (.dptr (m.map row) a.length):=fun h=>by simp_all
  have i2:∀h:Hp,ld1 h (.dptr (m.map row) a.length)=some (lst di r):=fun h=>by
   rw[lK row m _ hl];simp only[e,Zk (Z8 _),Za,Zf];rfl
  have hp:=aeQ r;simp only[mK];have s1:st [(1,Bk.vars [V.d nPQ]),(0,Bk.none)] 1 (V.ptr 0 1 0 1) (lst di r)=some [(1,.vars [lst di r]),nnQ]:=by simp[st,sto,ax,bL,okV,lst]
  have g1:∀x:Nat×Bk,ld1 [(1,.vars [lst di r]),x] (V.ptr 0 1 0 1)=some (lst di r):=fun x=>by rfl
  simp[hlt,i1,i2,s1,g1];refine cd (acy (r:=r) aa) ?_;have s2:∀z:Int,st [(1,.vars [lst di r]),(1,Bk.vars [V.d (D.int .i64 0)])] 1 (V.ptr 1 1 0 1) (I z)=some [(1,.vars [lst di r]),(1,.vars [I z])]:=fun z=>by rfl
  have g2:∀(z:Int)(x:Nat×Bk),ld1 [x,(1,.vars [I z])] (V.ptr 1 1 0 1)=some (I z):=fun z x=>by rfl
  simp only[JK]at h0 h1;simp[s2,g2];by_cases c1:piv r<=b
  .rw[if_pos (.inl c1)]at h0 h1;simp[c1,s2,g2]
   grind
  .obtain⟨p,hpp⟩:∃p:Nat,piv r=p:=⟨(piv r).toNat,aa⟩;have hpr:p<r.length:=aa;rw[hpp]at h0 h1 c1 ⊢;rw[Int.toNat_natCast]at h0 h1;have i3:∀h:Hp,ixV h 1 (lst di r) (I p)=some (.dptr (r.map di) p):=fun h=>iC di r h rfl hpr
   have i4:∀h:Hp,ld1 h (.dptr (r.map di) p)=some (I (nth 0 r p)):=fun h=>gn di 0 r h hpr
   by_cases c2:nth 0 r p<0
   .rw[if_pos (.inr c2)]at h0 h1;simp(disch:=try exact ac)[c1,c2,s2,g2,g1,i3,i4]
    grind
   .rw[if_neg (by simp only[not_or];exact⟨c1,c2⟩)]at h0 h1
    have sl:∀h:Hp,slV h 1 (mat m) none (some (I a.length))=some (mat a):=fun h=>by
     have:=adK row m (h:=h) (i:=a.length) (j:=a.length) aa rfl aa
     grind
    simp(disch:=try exact ac)[c1,c2,s2,g2,g1,i3,i4,sl];have hct:=CY (g:=F.eM) (cs:=[.dptr [.int .i64 p] 0,.dptr [row r] 0]) (p:=upF p r) (fun x=>by rfl) (by rfl) a aa fun o ho=>aep hpr (by grind)
    refine pY (ds:=[mat a,.fn F.eM [] [.dptr [.int .i64 p] 0,.dptr [row r] 0]]) (h':=[(1,Bk.data 1 [row r] false true),(1,Bk.data 1 [.int .i64 p] false true)]) ?_ hct ?_
    .rfl
    .rw[show(if cC (B (a.any (upF p r)))=true then[(1,Bk.vars [lst di r]),(1,Bk.vars [I (p:Int)])]else[(1,Bk.data 1 [row r] false true),(1,Bk.data 1 [.int .i64 p] false true)])=[(1,Bk.vars [lst di r]),(1,Bk.vars [I (p:Int)])]from rfl];by_cases c3:a.any (upF p r)=true
     .rw[if_pos c3]at h0 h1;simp[c3]
      grind
     .rw[if_neg c3]at h0 h1;have c3':a.any (upF p r)=false:=by simpa using c3
      have ih:=Fo hm hc hr K q (a++[r]) p aa (by simp[e]) h0 h1;have e2:((a++[r]).length:Int)=(a.length:Int)+1:=ae;rw[e2]at ih;simp(disch:=try exact ac)[c3',g2];trivial
theorem KR{c:Nat}:∀{m:LLQ},Gj c m=0->∀r∈m,r.length=c∧r.length<=12
 |[],_,r,hr=>by simp at hr
 | x::m,h,r,hr=>by
  simp only[Gj]at h;split at h
  .omega
  .split at h
   .omega
   .split at h
    .omega
    .rename_i a1 a2 _;rcases Zx.1 hr with rfl|hr
     .exact⟨aa,aa⟩
     .exact KR h r hr
theorem Ql(b:Bool)(z:Int)(h:Hp):out (.tup [B b,I z]) (.tup [B b,I z]) h:=⟨h,by rfl⟩
def hfB(m:LLQ):Bool:=decide (tcB m=0)&&JK (-1) [] m
theorem OB{m:LLQ}(hm:m.length<1000000)(hr:∀r∈m,r.length<1000000):CP Y F.kP [mat m] (.tup [B (hfB m),I (tcB m)]):=by
 refine Bu ?_;simp only[kP];simp;refine cd (R9 hm hr) ?_ (by rfl);by_cases h:tcB m=0
 .have h12:¬12<m.length:=fun g=>by grind[tcB]
  have hl:=h;simp only[tcB,if_neg h12]at hl;have hc:=KR hl
  have hcl:m≠[]->(nth [] m 0).length<1000000:=fun e=>by
   grind[Xd,cF]
  have hfo:CP Y F.kN [mat m] (B (JK (-1) [] m)):=by
   refine Bt ?_;simp only[kN];have l1:aY (mat m)=some (I m.length):=rfl;simp[l1];by_cases e:m=[]
   .subst e;refine lo (Fo (c:=0) hm aa ae _ [] [] (-1) aa rfl (fun e h=>?_) (fun e h=>?_))
    .simp
     simp_all
    .cases e
   .refine lo (Fo hm (hcl e) (fun r hr=>(hc r hr).1) _ m [] (-1) aa rfl (fun e h=>?_) (fun e h=>?_))
    .simp
     simp_all
    .simp
     simp_all
  simp[h];refine cd hfo ?_ (by rfl);have e:hfB m=JK (-1) [] m:=by simp[hfB,h]
  grind[Ql]
 .simp[h];have e:hfB m=false:=by simp[hfB,h]
  grind[Ql]
def GB(c:Int)(m:LLQ):Int:=if lcB c m≠0 then lcB c m else if hfB m=true then 0 else 7
theorem Bq{c:Int}{m:LLQ}(hm:m.length<1000000)(hr:∀r∈m,r.length<1000000):CP Y F.iY [pA c m] (I (GB c m)):=by
 refine CE ?_;simp only[iY,pA];simp;refine cd (HZ hm hr) ?_ (by rfl);by_cases h:lcB c m=0
 .simp[h];refine cd (OB hm hr) ?_ (by rfl);by_cases h2:tcB m=0
  .by_cases h3:hfB m=true
   .simp[h2,h3]
    grind[ba,GB]
   .have h3':hfB m=false:=by simpa using h3
    simp[h2,h3']
    grind[ba,GB]
  .have h3':hfB m=false:=by simp[hfB,h2]
   simp[h2,h3']
   grind[ba,GB]
 .simp[h]
  grind[ba,GB]
def Bh(n:Int)(p:Mz):Hp:=[(1,.vars [I 0,nlV]),(1,.vars [I n,(acU 2).v p.length (p.map row)]),(acU 2).b p.length (p.map row)]
theorem XD{m:Mz}{n:Int}(hm:m.length<1000)(hr:∀r∈m,r.length<1000000)(hz:∀r∈m,∀z∈r,-1000000000<=z∧z<=1000000000)(h0:Hp)(K:KL):∀(q p:Mz),m=p++q->K (.exit 0) [] (Bh n m) ->
  lp (iO (CX Y) (.ptr 0 1 0 2) (.ptr 1 1 0 2) (qY m) (I m.length)) [] h0 [I p.length] (Bh n p) K
 | [],p,e,hK=>by
  simp only[Zj]at e;subst e;refine ak ?_;have hlt:¬((m.length:Int)<(m.length:Int)):=aa;simp only[iO];simp[hlt];exact hK
 | r::q,p,e,hK=>by
  refine ak ?_;have hlt:((p.length:Int)<(m.length:Int)):=by rw[e];simp;omega
  have hrm:r∈m:=by rw[e];simp
  have hpl:p.length<m.length:=aa;obtain⟨H,hH⟩:=nmQ (Bh n p);have i1:ixV H 1 (qY m) (I p.length)=some (.dptr (m.map sV) p.length):=by rw[e];exact QP p r q H
  have i2:ld1 H (.dptr (m.map sV) p.length)=some (lst sI r):=by rw[e];exact QL p r q H
  rw[<-hH];simp only[iO];simp[hlt,i1,i2];refine cd (SX (hz r hrm) (hr r hrm)) ?_;have f1:ld1 H (.ptr 1 1 1 2)=some ((acU 2).v p.length (p.map row)):=by rw[hH];simp[ld1,Bh,ax]
  have hli:eV 1 [nPQ] [(0,lst di r)] H=some ([row r],H):=by simp[eV,gW,jj,toD,norm,lst,row]
  simp[f1,hli];refine oh (acU 2) (by_:=24) (k:=1) (cs:=[row r]) aa (by rw[hH];rfl) (by simp[acU]) (by rfl) rfl (by grind) aa (by simp[acU]) ?_;have hs:H.set (acU 2).s ((acU 2).b (p.length+1) (p.map row++[row r]))=[(1,.vars [I 0,nlV]),(1,.vars [I n,(acU 2).v p.length (p.map row)]),(acU 2).b (p.length+1) (p.map row++[row r])]:=by rw[hH];rfl
  have hst:st [(1,.vars [I 0,nlV]),(1,.vars [I n,(acU 2).v p.length (p.map row)]),(acU 2).b (p.length+1) (p.map row++[row r])] 1 (.ptr 1 1 1 2) ((acU 2).v (p.length+1) (p.map row++[row r]))=some (Bh n (p++[r])):=by
   simp[st,sto,ax,bL,okV,Bh,Acc.v,Acc.b]
  have ih:=XD hm hr hz h0 K q (p++[r]) (by simp[e]) hK;have e2:((p++[r]).length:Int)=(p.length:Int)+1:=ae;rw[e2]at ih;rw[hs];simp only[Acc.v,Acc.b]at hst ⊢;simp(disch:=try exact ac)[hst]
  simp_all[fS,Bh]
theorem yh{n:Int}(hm:m.length<1000)(hr:∀r∈m,r.length<1000000)(hz:∀r∈m,∀z∈r,-1000000000<=z∧z<=1000000000):CP Y F.dF [qY m,I n] (.tup [pA n m,I 0]):=by
 refine vi ?_;simp only[dF];have l1:aY (qY m)=some (I m.length):=rfl;simp[l1];refine lo (XD hm hr hz _ _ m [] rfl ?_);have g1:ldA (Bh n m) 2 (.ptr 1 1 0 2)=some (.agg [I n,(acU 2).v m.length (m.map row)]):=by simp[ldA,Bh,ax]
 have okv:okV ((acU 2).v m.length (m.map row))=true:=by cases m<;>rfl
 have s1:st (Bh n m) 2 (.ptr 0 1 0 2) (.agg [I n,(acU 2).v m.length (m.map row)])=some [(1,.vars [I n,(acU 2).v m.length (m.map row)]),(1,.vars [I n,(acU 2).v m.length (m.map row)]),(acU 2).b m.length (m.map row)]:=by
  simp[st,sto,Bh,ax,bL,okv]
 have g2:ldA [(1,.vars [I n,(acU 2).v m.length (m.map row)]),(1,.vars [I n,(acU 2).v m.length (m.map row)]),(acU 2).b m.length (m.map row)] 2 (.ptr 0 1 0 2)=some (.agg [I n,(acU 2).v m.length (m.map row)]):=by simp[ldA,ax]
 show(bnd (ldA (Bh n m) 2 (.ptr 1 1 0 2)) fun v7=>stD (Bh n m) 2 (.ptr 0 1 0 2) v7 fun x h=>bnd (ldA h 2 (.ptr 0 1 0 2)) fun v9=>out (.tup [pA n m,I 0]) (.tup [v9,.d (.int .i64 0)]) h)
 simp only[g1,bnd,stD,s1,g2];obtain⟨h',e1,_⟩:=nY (acU 2) (L:=m.length) (cells:=m.map row) (h:=[(1,.vars [I n,(acU 2).v m.length (m.map row)]),(1,.vars [I n,(acU 2).v m.length (m.map row)]),(acU 2).b m.length (m.map row)]) rfl (by simp[acU]);refine⟨h',?_⟩
 simp_all[aD,ai,pA,lst]
structure xF(n:Nat)(m:Mz):Prop where
 n0:0<n
 n12:n<=12
 ml:m.length<=12
 rl:∀r∈m,r.length=n
 sm:∀r∈m,∀z∈r,-1000000000<=z∧z<=1000000000
theorem QN{z:Mz}(hB:Bd<=100000)(hl:GB n m=0)(ho:xF n m)(hk:uG Bd f n m=some z)(hz:xF n z):CP Y F.eE [pA n m] (.tup [pA n z,I 0]):=by
 refine vm ?_;simp only[eE,pA];simp;have hrl:∀r∈m,r.length<1000000:=fun r hr=>by rw[ho.rl r hr];have:=ho.n12;omega
 have hml:=ho.ml;have hn:=ho.n12;refine cd (args:=[pA n m]) (Bq aa hrl) ?_ (by rfl);have c1:=ET (m:=m) ho.ml hrl (fun r hr z hz=>by have:=ho.sm r hr z hz;omega);have c2:=Br (m:=m) (n:=n) ho.n0 aa ho.rl aa hB hk;have c3:=yh (m:=z) (n:=n) (by grind[xF.ml]) (fun r hr=>by grind[xF.rl]) hz.sm;simp[hl];refine cd c1 ?_ (by rfl);simp
 refine cd c2 ?_ (by rfl);simp;refine cd c3 ?_ (by rfl);have ok1:okV (mat z)=true:=rfl;simp[pA,ok1];exact⟨_,by rfl⟩
theorem QD{y z:Mz}(hB:Bd<=100000)(hl:GB n m=0)(ho:xF n m)(hk:uG Bd f n m=some y)(hy:∀r∈y,r.length=n)(hyl:y.length<1000)(hk2:uG Bd f n y=some z)(hz:xF n z):CP Y F.gJ [pA n m] (.tup [pA n z,I 0]):=by
 refine yi ?_;simp only[gJ,pA];simp;have hrl:∀r∈m,r.length<1000000:=fun r hr=>by rw[ho.rl r hr];have:=ho.n12;omega
 have hml:=ho.ml;have hn:=ho.n12;refine cd (args:=[pA n m]) (Bq aa hrl) ?_ (by rfl);have c1:=ET (m:=m) ho.ml hrl (fun r hr z hz=>by have:=ho.sm r hr z hz;omega);have c2:=Br (m:=m) (n:=n) ho.n0 aa ho.rl aa hB hk;have c4:=Br (m:=y) (n:=n) ho.n0 aa hy hyl hB hk2
 have c3:=yh (m:=z) (n:=n) (by grind[xF.ml]) (fun r hr=>by grind[xF.rl]) hz.sm;simp[hl];refine cd c1 ?_ (by rfl);simp;refine cd c2 ?_ (by rfl);simp;refine cd c4 ?_ (by rfl);simp;refine cd c3 ?_ (by rfl);have ok1:okV (mat z)=true:=rfl;simp[pA,ok1];exact⟨_,by rfl⟩
theorem mY{α:Type}(d:α)(m:List α)(h:i<m.length):nth d m i=m[i]:=by rw[nth,Z6,List.getElem?_eq_getElem h];rfl
theorem QT(H:HmF n m):m.length<=n:=by
 obtain⟨L,H⟩:=H
 have:=w8 (n:=n) (uK H m.length 0 0 aa (fun _=>Y4 _)) (fun x hx=>by
  obtain⟨k,_,hk,rfl⟩:=uB hx;exact H.lt k aa)
 grind[zq]
theorem OD(H:HmF n m):∀r∈m,r.length=n:=fun r hr=>by
 obtain⟨L,H⟩:=H;obtain⟨i,hi,rfl⟩:=Zd.1 hr;have:=H.ln i hi
 grind[mY]
theorem O7(hb:BdE E m):∀r∈m,∀z∈r,z.natAbs<=E:=fun r hr z hz=>by
 obtain⟨i,hi,rfl⟩:=Zd.1 hr;obtain⟨j,hj,rfl⟩:=Zd.1 hz;have:=hb i j
 grind[mY]
theorem zk(h1:0<n)(h2:n<=12)(H:HmF n m)(hb:BdE (10^9) m):xF n m:=
 ⟨h1,h2,by have:=QT H;omega,OD H,fun r hr z hz=>by have:=O7 hb r hr z hz;omega⟩
theorem VV{l:Nat}(h1:∀j,j<l->nth 0 r j=0)(h2:nth 0 r l≠0):piv r=l:=by
 have hl:l<r.length:=Decidable.byContradiction fun h=>h2 (by rw[nth,Z6,List.getElem?_eq_none aa];rfl)
 have:r.findIdx? (fun n=>n !=0)=some l:=by
  rw[List.findIdx?_eq_some_iff_getElem];refine⟨hl,by grind[mY],fun j hj=>?_⟩;rw[<-mY 0 r aa,h1 j hj];simp
 grind[piv,idx]
theorem QW{n:Nat}{m:Mz}{L:Nat->Nat}(H:Hm n n m.length L m):∀(q a:Mz)(b:Int),m=a++q->(∀i,i<m.length->i=a.length->b<L i)->JK b a q=true
 |[],a,b,e,hb=>rfl
 | r::q,a,b,e,hb=>by
  have hal:a.length<m.length:=by rw[e];simp
  have er:nth [] m a.length=r:=by rw[mY _ _ hal];simp[e]
  have p1:=H.pos a.length hal;have p2:=H.low a.length hal;simp only[eZ,er]at p1 p2;have hp:=VV p2 aa;have hb':=hb a.length hal rfl;simp only[JK,hp,Int.toNat_natCast];rw[if_neg aa,if_neg]
  .refine QW H q (a++[r]) _ (by simp[e]) fun i hi he=>?_
   rw[Zr,List.length_singleton]at he;subst he;have:=H.inc a.length (a.length+1) aa hi;omega
  .rw[Bool.not_eq_true,List.any_eq_false];intro o ho;obtain⟨j,hj,rfl⟩:=Zd.1 ho;have eo:nth [] m j=a[j]:=by rw[mY _ _ aa];simp[e,List.getElem_append_left hj]
   have:=H.red j a.length hj hal
   grind[upF]
theorem Pz{c:Nat}(hc:c<=12):∀{m:Mz},(∀r∈m,r.length=c)->(∀r∈m,∀z∈r,z.natAbs<=1000000000)->Gj c m=0
 |[],_,_=>rfl
 | r::q,h1,h2=>by
  have hr:=h1 r ae;simp only[Gj];rw[if_neg aa,if_neg aa,if_neg]
  .exact Pz hc (fun x hx=>h1 x (by grind)) fun x hx=>h2 x (by grind)
  .rw[Bool.not_eq_true,List.any_eq_false];intro z hz;have:=h2 r ae z hz
   grind[OF]
theorem VH(h1:r.length<=64)(h2:∀z∈r,z.natAbs<=1000000000):rcB r=0:=by
 unfold rcB;rw[if_neg];rintro(h|h)
 .omega
 grind[Cb]
theorem Lx{n:Nat}(hn:n<=64):∀{m:Mz},(∀r∈m,r.length=n)->(∀r∈m,∀z∈r,z.natAbs<=1000000000)->vZ n m=0
 |[],_,_=>rfl
 | r::q,h1,h2=>by
  have hr:=h1 r ae;simp only[vZ];rw[VH aa (h2 r ae),if_neg af,if_neg aa];exact Lx hn (fun x hx=>h1 x (by grind)) fun x hx=>h2 x (by grind)
theorem YD(hn:n<=12)(hm:m.length<=12)(h1:∀r∈m,r.length=n)(h2:∀r∈m,∀z∈r,z.natAbs<=1000000000):lcB n m=0:=by unfold lcB;rw[if_neg aa,if_neg aa];exact Lx aa h1 h2
theorem JG(hn:n<=12)(H:HmF n m)(hb:BdE (10^9) m):GB n m=0:=by
 have hl:=QT H;have hr:=OD H;have hz:=O7 hb;have hz':∀r∈m,∀z∈r,z.natAbs<=1000000000:=fun r hr z hzz=>hz r hr z hzz
 unfold GB;rw[YD hn aa hr hz',if_neg af,if_pos];unfold hfB
 have t0:tcB m=0:=by
  unfold tcB;rw[if_neg aa];refine Pz ?_ (fun r hr'=>?_) hz'
  .cases m with
   |nil=>simp[nth]
   |cons x q=>have:=hr x ae;grind[nth]
  .rw[hr r hr'];cases m with
   |nil=>cases hr'
   |cons x q=>have:=hr x ae;grind[nth]
 obtain⟨L,H⟩:=H;rw[t0,QW H m [] (-1) rfl (fun i _ _=>by omega)];rfl
def ofN(N:Nat)(r0 o:Nat×Bk)(l:List RwL):Hp:=r0::o::nnQ::loB l::(l.map RwL.k++List.replicate (N-l.length) nnQ)
theorem Jg{N:Nat}{r0:Nat×Bk}{l:List RwL}(h:l.length<=N):(ofN N r0 o l).length=N+4:=by grind[ofN]
theorem Qu{r0:Nat×Bk}{l:List RwL}(h:l.length<=12):ofN 12 r0 o l++List.replicate 14 nnQ=ofN 26 r0 o l:=by simp only[ofN,List.cons_append,List.append_assoc,List.replicate_append_replicate];rw[show 12-l.length+14=26-l.length by omega]
theorem WK{r0:Nat×Bk}{l:List RwL}(h:l.length<=12):(ofN 26 r0 o l).take 16=ofN 12 r0 o l:=by rw[<-Qu h,X3 (by rw[Jg h])]
section
variable{r0:Nat×Bk}(hr0:aB 16 r0.2=true)
include hr0
theorem Qt{N:Nat}{l:List RwL}(ho:aB 16 o.2=true)(hl:∀R∈l,R.s<16):((ofN N r0 o l).all fun x=>aB 16 x.2)=true:=by simp only[ofN,List.all_cons,Yw,ho,hr0,I9,A8,Ya,Yb];exact Bool.and_eq_true_iff.2 ⟨rfl,Mh hl⟩
theorem Cc{m:LLQ}(hm:m.length<=12)(hr:∀r∈m,r.length<1000000)(hz:∀r∈m,∀z∈r,-9223372036854775808<z∧z<9223372036854775808)(h0:Hp)(K:KL) :
  ∀(q a:LLQ)(o:Nat×Bk),m=a++q->o=ooF nnQ (lgR true 4 a)->K (.exit 0) [loV 3 (lgR true 4 m)] (ofN 26 r0 (ooF nnQ (lgR true 4 m)) (lgR true 4 m)) ->
  lp (lO (CX Y) 16 (mat m) (I m.length)) [] h0 [loV 3 (lgR true 4 a),I a.length] (ofN 26 r0 o (lgR true 4 a)) K
 | [],a,o,e,hu,hK=>by
  simp only[Zj]at e;subst e;refine ak ?_;simp only[lO];have hlt:¬((m.length:Int)<(m.length:Int)):=aa;simp[hlt]
  grind
 | r::q,a,o,e,hu,hK=>by
  refine ak ?_;have hlt:((a.length:Int)<(m.length:Int)):=by rw[e];simp;omega
  have hl:a.length<m.length:=aa;have hal:a.length<12:=aa;have hrm:r∈m:=by rw[e];simp
  obtain⟨H,hH⟩:=nmQ (ofN 26 r0 o (lgR true 4 a));have i1:ixV H 1 (mat m) (I a.length)=some (.dptr (m.map row) a.length):=by rw[e];exact oz row a r q _ _
  have i2:ld1 H (.dptr (m.map row) a.length)=some (lst di r):=by
   rw[lK row m _ hl];simp only[e,Zk (Z8 _),Za,Zf];rfl
  have hlen:H.length=30:=by rw[hH,Jg aF]
  have hu1:(H.all fun x=>aB H.length x.2)=true:=by
   rw[hlen];refine tE (b:=16) aa ?_;rw[hH];have hlt16:∀R∈lgR true 4 a,R.s<16:=fun R hR=>by have:=EZ true 4 a R hR;omega
   exact Qt hr0 (by rw[hu];exact Qo rfl hlt16) hlt16
  rw[<-hH];simp only[lO];simp[hlt,i1,i2]
  have g1:H[a.length+4]?=some nnQ:=by
   rw[hH];simp only[ofN,List.getElem?_cons_succ];rw[List.getElem?_append_right ae,List.getElem?_replicate,if_pos aF]
  refine u5 (a.length+4) ?_;refine gv (Bj (Rd.data _ r) (hz r hrm) (hr r hrm) hu1) g1 ?_;obtain⟨R,hR⟩:∃R:RwL,R=⟨a.length+4,1,[],[],true,r.length,r⟩:=⟨_,rfl⟩;have v1:V.ref (a.length+4) (0+1) 0 r.length r.length (r.map sI).length=R.v:=by rw[hR];simp[RwL.v,RwL.tot]
  have k1:((0+1,Bk.data 1 (r.map sI) true false):Nat×Bk)=R.k:=by rw[hR];simp[RwL.k]
  have e1:H.set (a.length+4) R.k=r0::o::nnQ::loB (lgR true 4 a)::((lgR true 4 a++[R]).map RwL.k++List.replicate (26-(lgR true 4 a++[R]).length) nnQ):=by
   rw[hH];simp only[ofN,List.set_cons_succ];rw[Yy _ _ ae];simp only[List.length_map,zo,Za,Yh,Zr,List.append_assoc,Zv,X0,List.length_cons,List.length_nil];rw[show 26-a.length=(26-(a.length+1))+1 by omega,List.replicate_succ,List.set_cons_zero];rfl
  have l2:lgR true 4 (a++[r])=lgR true 4 a++[R]:=by rw[JC,hR]
  rw[v1,k1,e1,<-l2];simp;refine u5 1 ?_;simp;refine Js (e:=o.1) (b:=o.2) rfl (v:=R.v) rfl ?_;simp;refine u5 3 ?_;simp;refine(Dm (l:=lgR true 4 a) (R:=R) aF (by simp[rL,ax]) rfl ?_);rw[<-l2];have ih:=Cc hm hr hz h0 K q (a++[r]) (o.1+1,.vars [R.v]) (by simp[e]) (by rw[l2,Qp,hu]) hK
  have e2:((a++[r]).length:Int)=(a.length:Int)+1:=ae;rw[e2]at ih;simp(disch:=try exact ac);refine lo ?_;have e3:26-(lgR true 4 (a++[r])).length=25-a.length:=ae
  grind[ofN.eq_1,fS]
theorem Me{m:LLQ}(hm:m.length<=12)(hr:∀r∈m,r.length<1000000)(hz:∀r∈m,∀z∈r,-9223372036854775808<z∧z<9223372036854775808):
  CI Y F.cN [mat m] (ofN 12 r0 nnQ []) (loV 3 (lgR true 4 m)) (ofN 12 r0 (ooF nnQ (lgR true 4 m)) (lgR true 4 m)):=by
 refine zu ?_;have hl:(ofN 12 r0 nnQ []).length=16:=rfl;have l1:aY (mat m)=some (I m.length):=rfl;have hlt16:∀R∈lgR true 4 m,R.s<16:=fun R hR=>by have:=EZ true 4 m R hR;omega
 rw[hl];simp only[cN];rw[Qu ae];simp[l1];refine lo (Cc hr0 hm hr hz _ _ m [] nnQ rfl rfl ?_);simp;refine⟨by rw[WK aF],Qt hr0 (Qo rfl hlt16) hlt16,.inl ⟨rfl,?_⟩⟩;unfold loV;split
 .rfl
 rfl
end
theorem N5{so eo o:Nat}{h:Hp}{m:List RwL}(hs:h[so]?=some (eo,.vars (m.map RwL.v)))(hr:∀R∈m,LR h R)(hc:∀R∈m,R.r.length<=R.cap)(h0:m≠[])(ho:o<=m.length):
  ∃h1,aD h (.ref so eo 0 o m.length m.length)=some (qY ((m.map RwL.r).take o),h1)∧∀(s e:Nat)(vs:LwQ),s≠so->h[s]?=some (e,Bk.vars vs)->h1[s]?=some (e,Bk.vars vs):=by
 obtain⟨h1,e1,v1⟩:=IJ m h hr hc;have g1:=v1 _ _ _ hs;have g0:ax h so eo=.vars (m.map RwL.v):=by simp[ax,hs]
 have hd:CM (m.map RwL.v)=none:=by
  cases m with
  |nil=>trivial
  |cons R m=>rfl
 refine⟨bL h1 so eo (.data 1 (m.map fun R=>sV R.r) false true),?_,fun s e vs hne hg=>?_⟩
 .have t1:toD h (.ref so eo 0 o m.length m.length)=none:=by simp[toD,g0,hd]
  have t2:NK h (.ref so eo 0 o m.length m.length)=some (.sl o ((m.map fun R=>sV R.r).take o),bL h1 so eo (.data 1 (m.map fun R=>sV R.r) false true)):=by
   simp only[NK,g0,e1];have:ax h1 so eo=.vars (m.map RwL.v):=by simp[ax,g1]
   simp only[this];rw[if_pos (by grind)];simp
  simp_all[aD,qY,lst,Function.comp_def]
 grind[bL.eq_1]
theorem afb{n Bd f o':Nat}{m z':Mz}(hB:Bd<=100000)(h0:0<n)(hn:n<=12)(hl:lcB n m=0)(hm:m.length<=12)(hr:∀r∈m,r.length=n)(hz:∀r∈m,∀z∈r,-9223372036854775808<z∧z<9223372036854775808)
  (hf:ql Bd f n m=some (o',z')) (ho:xF n (z'.take o')):CP Y F.pQ [I n,mat m] (.tup [pA n (z'.take o'),I 0]):=by
 refine JH ?_;simp only[pQ];simp;have hrl:∀r∈m,r.length<1000000:=fun r hr'=>by grind
 have ck:=HZ (n:=n) (m:=m) aa hrl;rw[hl]at ck;refine cd ck ?_ (by rfl);obtain⟨r0,hr0⟩:∃r0:Nat×Bk,r0=(1,.vars [I 0,nlV]):=⟨_,rfl⟩;have u0:aB 16 r0.2=true:=by rw[hr0];rfl
 have hH:([(1,Bk.vars [V.d (D.int IntKind.i64 0),V.d nPQ]),(0,Bk.none),(0,Bk.none),(0,Bk.none),(0,Bk.none),(0,Bk.none),(0,Bk.none),(0,Bk.none),(0,Bk.none),(0,Bk.none),(0,Bk.none),(0,Bk.none),(0,Bk.none),(0,Bk.none),(0,Bk.none),(0,Bk.none)]:Hp)=ofN 12 r0 nnQ []:=by rw[hr0];rfl
 have c1:=Me u0 hm hrl hz;have ok1:okV (mat (z'.take o'))=true:=rfl;have c3:=yh (m:=z'.take o') (n:=n) (by grind[xF.ml]) (fun r hr'=>by grind[xF.rl]) ho.sm;simp;rw[hH];by_cases hm0:m=[]
 .subst hm0
  have hz0:z'=[]:=by
   have hfm:=(Dr (n:=n) (fun i hi=>by simp at hi) hf).2.2;exact Zn hfm
  subst hz0;rw[List.take_nil]at c3 ⊢;have c1':CI Y F.cN [mat []] (ofN 12 r0 nnQ []) nlV (ofN 12 r0 nnQ []):=c1;refine gL c1' ?_ ae;refine gL (HV (h:=ofN 12 r0 nnQ []) (n:=n) ?_) ?_ ae
  .exact Qt (N:=12) u0 rfl (fun R hR=>by cases hR)
  refine pY (ds:=[qY [],I n]) (h':=ofN 12 r0 nnQ []) rfl c3 ?_;rw[hr0];simp[pA,ok1];exact⟨_,by rfl⟩
 .obtain⟨l,hll⟩:=nmQ (lgR true 4 m);have hln:l.length=m.length:=by rw[hll];simp
  have hl0:l≠[]:=fun e=>hm0 (by grind)
  have hlr:l.map RwL.r=m:=by rw[hll,XT]
  have hnth:∀i,i<l.length->nth RwL.z l i=⟨i+4,1,[],[],true,(nth [] m i).length,nth [] m i⟩:=fun i hi=>by rw[hll,JB true 4 _ i aa]
  have hnl:∀i,i<l.length->(nth [] m i).length=n:=fun i hi=>by rw[mY _ _ aa];grind
  obtain⟨o,hoo⟩:=nmQ (ooF nnQ l)
  have uo:aB 16 o.2=true:=by
   rw[hoo];exact Qo rfl fun R hR=>by rw[hll]at hR;have:=EZ true 4 m R hR;omega
  rw[<-hll,<-hoo]at c1;obtain⟨H,hHe⟩:=nmQ (ofN 12 r0 o l);have hHl:H.length=16:=by rw[hHe,Jg aa]
  have T:Tr H.length H H 3 l.length n l:=by
   refine⟨?_,fun i hi=>?_,fun i j hi hj hij=>?_,fun i hi=>?_,fun i hi=>?_,fun _ _ _=>rfl,aa,fun i hi=>?_,?_,Z8 _,fun s h1 h2=>by omega⟩
   .grind[ofN,loB]
   .have h5:=Dn true m 4 [r0,o,nnQ,loB l] (List.replicate (12-l.length) nnQ) rfl (nR l i) (by grind[yf]);rw[<-hll]at h5;rw[hHe];exact h5
   .grind
   .grind
   .grind
   .grind
   .rw[hHl,hHe];exact Qt u0 uo fun R hR=>by rw[hll]at hR;have:=EZ true 4 m R hR;omega
  obtain⟨m1,f1,f2⟩:=JN (hlr.symm▸hf);obtain⟨⟨⟨h1,T1,e1⟩,hQ⟩,q1,q2⟩:=FC (Q:=fun R=>n<=R.cap∧4<=R.s) (fun _ _ h=>h) T (fun i hi=>by rw[nR,hnth i hi];exact⟨by grind,ae⟩) f1;have fo:=E4 hB aa aa (Z8 _) T f1 T1 e1;have lv:loV 3 l=.ref 3 l.length 0 l.length l.length l.length:=by rw[loV,if_neg hl0]
  rw[lv,<-hHe]at c1;refine gL c1 ?_ ae;refine gL fo ?_ ae;have hm1:m1≠[]:=fun e=>hl0 (by grind)
  have g0:h1[0]?=some (1,.vars [I 0,nlV]):=by
   rw[T1.fr 0 aa (fun i hi=>by grind),hHe,hr0];rfl
  have T1o:=T1.o;rw[<-q2]at T1o ⊢
  obtain ⟨h3,e3,v3⟩:=N5 (o:=o') T1o (fun R hR=>by
   obtain⟨i,hi,rfl⟩:=Bg hR;exact⟨false,T1.r i hi⟩) (fun R hR=>by
   grind[Bg,Tr.ln]) hm1 aa
  rw[f2]at e3;have g3:=v3 0 1 _ aa g0
  have hs3:∀c w:V,okV c=true->okV w=true->st h3 2 (.ptr 0 1 0 2) (.agg [c,w])=some (h3.set 0 (1,.vars [c,w])):=fun c w hc hw=>by
   grind[st,sto,ax,bL]
  have h3l:0<h3.length:=(List.getElem?_eq_some_iff.1 g3).1
  have hl3:∀c w:V,ldA (h3.set 0 (1,.vars [c,w])) 2 (.ptr 0 1 0 2)=some (.agg [c,w]):=fun c w=>by
   simp[ldA,ax,List.getElem?_set_self h3l]
  have sI:∀h:Hp,aD h (I n)=some (I n,h):=fun h=>rfl
  refine pY (ds:=[qY (z'.take o'),I n]) (h':=h3) (by grind[ai]) c3 ?_;have okI:okV (I (n:Int))=true:=rfl;have hs4:=hs3 (I n) (mat (z'.take o')) rfl ok1;have hl4:=hl3 (I n) (mat (z'.take o'));rw[show(if cC (V.tup [pA n (z'.take o'),I 0])=true then h1 else h3)=h3 from rfl];simp only[pA];simp[hs4,hl4];exact⟨_,by rfl⟩
def tpV(p:LiQ)(c w:Mz):V:=.agg [lst di p,mat c,mat w]
structure xE(p:LiQ)(c w:Mz):Prop where
 pr:pcB p=0
 lc:xF p.length c
 lw:xF p.length w
 ch:GB p.length c=0
 k1:∃B f,B<=100000∧uG B f p.length c=some w∧uG B f p.length w=some c
theorem RY(x y:LiQ)(hx:x.length<1000000)(hy:y.length<1000000):CP Y F.eA [.d (row x),.d (row y)] (B (decide (x=y))):=by refine u9 ?_;simp only[eA];simp;refine cd (args:=[lst di x,lst di y]) (Ch aa aa) ?_ (by rfl);simp
theorem Ug{m':Mz}(hm:m.length<1000000)(hm':m'.length<1000000)(h2:∀r∈m,r.length<1000000)(h3:∀r∈m',r.length<1000000):CP Y F.gD [mat m,mat m'] (B (decide (m=m'))):=by refine xR ?_;simp only[gD];simp;refine cd (ZL (g:=F.eA) RY hm hm' h2 h3) ?_ (by rfl);simp
theorem xF.rl6(h:xF n m):∀r∈m,r.length<1000000:=fun r hr=>by rw[h.rl r hr];have:=h.n12;omega
theorem DZ{p:LiQ}{c w:Mz}(h:xE p c w):CP Y F.fF [tpV p c w] (I 0):=by
 refine xp ?_;simp only[fF,tpV];have hn:=h.lc.n12;have hcl:=h.lc.ml;have hwl:=h.lw.ml;have a1:=me (p:=p) aa;rw[h.pr]at a1;have a2:=Bq (c:=p.length) (m:=c) aa h.lc.rl6;rw[h.ch]at a2;obtain⟨Bd,f,hB,k1,k2⟩:=h.k1;have a3:=QD hB h.ch h.lc k1 h.lw.rl aa k2 h.lc;have a4:=QN hB h.ch h.lc k1 h.lw
 have a5:CP Y F.jZ [pA p.length c,pA p.length c] (B true):=by
  have:=S4 (c:=p.length) (c':=p.length) (m:=c) (m':=c) aa aa h.lc.rl6 h.lc.rl6;simpa using this
 have a6:CP Y F.gD [mat w,mat w] (B true):=by
  have:=Ug (m:=w) (m':=w) aa aa h.lw.rl6 h.lw.rl6;simpa using this
 have l1:aY (lst di p)=some (I p.length):=rfl;simp;refine cd a1 ?_;have ok1:∀m:Mz,okV (lst row m)=true:=fun _=>rfl
 simp only[pA,mat]at a2 a3 a4 a5 a6;simp[l1,ok1];refine cd a2 ?_ (by rfl);simp;refine cd a3 ?_ (by rfl);simp[ok1];refine cd a5 ?_ (by rfl);simp;refine cd a4 ?_ (by rfl);simp[ok1];refine cd (args:=[lst row w,lst row w]) a6 ?_ (by rfl);simp
def tbB(n:Nat):Mz->Int
 |[]=>0
 |r::q=>if rcB r≠0 then rcB r else if r.length≠n then 5 else tbB n q
variable{p:LiQ}{c w:Mz}
theorem Hd{m:Mz}(hm:m.length<1000000)(hr:∀r∈m,r.length<1000000)(e:Nat)(h0:Hp)(K:KL):∀(q a:Mz),m=a++q->(tbB p.length q=0->K (.exit 0) [] [(e,.vars [lst di p,mat c,mat w])])->(tbB p.length q≠0->K .ret [I (tbB p.length q)] [(e,.vars [lst di p,mat c,mat w])]) ->
  lp (jG (CX Y) (.ptr 0 e 0 3) (mat m) (I m.length)) [] h0 [I a.length] [(e,.vars [lst di p,mat c,mat w])] K
 | [],a,e1,h1,h2=>by
  simp only[Zj]at e1;subst e1;refine ak ?_;have hlt:¬((m.length:Int)<(m.length:Int)):=aa;simp only[jG];simp[hlt];exact h1 rfl
 | r::q,a,e1,h1,h2=>by
  refine ak ?_;have hlt:((a.length:Int)<(m.length:Int)):=by rw[e1];simp;omega
  have hl:a.length<m.length:=aa;have hrm:r∈m:=by rw[e1];simp
  have i1:∀h:Hp,ixV h 1 (mat m) (I a.length)=some (.dptr (m.map row) a.length):=fun h=>by simp_all
  have i2:∀h:Hp,ld1 h (.dptr (m.map row) a.length)=some (lst di r):=fun h=>by
   rw[lK row m _ hl];simp only[e1,Zk (Z8 _),Za,Zf];rfl
  have l1:aY (lst di r)=some (I r.length):=rfl;have l2:aY (lst di p)=some (I p.length):=rfl;have g1:ld1 [(e,.vars [lst di p,mat c,mat w])] (.ptr 0 e 0 3)=some (lst di p):=by simp[ld1,ax]
  simp only[jG];simp[hlt,i1,i2];refine cd (P8 (by grind)) ?_;simp only[tbB]at h1 h2;by_cases c1:rcB r=0
  .rw[if_neg (by simp[c1])]at h1 h2;by_cases c2:r.length=p.length
   .rw[if_neg (by simp[c2])]at h1 h2;have c2':(r.length:Int)=(p.length:Int):=aa;simp(disch:=try exact ac)[c1,l1,l2,g1,c2'];rw[fS];have ih:=Hd hm hr e h0 K q (a++[r]) (by grind) h1 h2;have e2:((a++[r]).length:Int)=(a.length:Int)+1:=ae
    simp_all
   .rw[if_pos c2]at h1 h2;have c2':¬(r.length:Int)=(p.length:Int):=aa;simp[c1,l1,l2,g1,c2']
    grind
  .rw[if_pos c1]at h1 h2;simp[c1]
   grind
theorem Sa(h:xE p c w)(hm:m.length<1000000)(hr:∀r∈m,r.length<1000000):CP Y F.ic [tpV p c w,mat m] (I (tbB p.length m)):=by
 refine xo ?_;simp only[ic,tpV];simp;refine cd (args:=[tpV p c w]) (DZ h) ?_ (by rfl);have l1:aY (mat m)=some (I m.length):=rfl;simp[l1];refine lo (Hd hm hr 1 _ _ m [] rfl (fun e=>?_) (fun e=>?_))
 .simp
  simp_all
 .simp
def pV:LiQ->LiQ->Int
 |x::xs,y::ys=>x*y+pV xs ys
 |_,_=>0
def bd9(l:LiQ):Prop:=∀x∈l,-1000000000<=x∧x<=1000000000
theorem G9{x v:LiQ}(hl:v.length=x.length)(hn:x.length<=64)(hx:bd9 x)(hv:bd9 v)(h0 h:Hp)(K:KL):∀(q qv a av:LiQ)(s:Int),x=a++q->v=av++qv->av.length=a.length->s.natAbs<=1000000000000000000*a.length ->
  K (.exit 2) [S (itoa (s+pV q qv))] h ->
  lp (jv (CX Y) (lst di v) (lst di x) (I x.length)) [] h0 [S (itoa s),I a.length] h K
 | [],qv,a,av,s,e1,e2,e3,hs,hK=>by
  simp only[Zj]at e1;subst e1;refine ak ?_;have hlt:¬((x.length:Int)<(x.length:Int)):=aa;simp only[jv];simp[hlt]
  grind[pV]
 | b::q,[],a,av,s,e1,e2,e3,hs,hK=>by
  grind
 | b::q,d::qv,a,av,s,e1,e2,e3,hs,hK=>by
  refine ak ?_;have hlt:((a.length:Int)<(x.length:Int)):=by rw[e1];simp;omega
  have hax:a.length<x.length:=aa;have hal:a.length<64:=Z3 hax hn;have i1:ixV h 1 (lst di x) (I a.length)=some (.dptr (x.map di) a.length):=by rw[e1];exact oz di a b q _ _
  have i2:ld1 h (.dptr (x.map di) a.length)=some (I b):=by
   rw[lK di x _ aa];simp only[e1,Zk (Z8 _),Za,Zf];rfl
  have i3:ixV h 1 (lst di v) (I a.length)=some (.dptr (v.map di) a.length):=by rw[e2,<-e3];exact oz di av d qv _ _
  have i4:ld1 h (.dptr (v.map di) a.length)=some (I d):=by
   rw[lK di v _ aa];simp only[e2,<-e3,Zk (Z8 _),Za,Zf];rfl
  have hb:=hx b (by grind);have hd:=hv d (by grind);have n18:∀z:Int,z.natAbs<10^30->ndg z.natAbs<400000:=fun z hz=>Zb (cQ hz af) af
  have h3:(b*d).natAbs<=1000000000*1000000000:=by
   rw[Zl];exact Zp aa aa
  have hp:(10:Nat)^30=1000000000000000000000000000000:=af;simp only[jv];simp[hlt,i1,i2];refine cd (kI (z:=b) aa aa) ?_;simp[i3,i4];refine cd (kI (z:=d) aa aa) ?_;simp;refine cd (nS (z:=b) (w:=d) (n18 _ aa) (n18 _ aa)) ?_;simp
  refine cd (tC (z:=s) (w:=b*d) (by have:=n18 s aa;omega) (by have:=n18 (b*d) aa;omega)) ?_;have h4:=Xy s (b*d)
  have ih:=G9 hl hn hx hv h0 h K q qv (a++[b]) (av++[d]) (s+b*d) (by grind) (by grind) (by grind) (by grind) (by
   have:s+b*d+pV q qv=s+pV (b::q) (d::qv):=by simp only[pV];omega
   grind)
  have e4:((a++[b]).length:Int)=(a.length:Int)+1:=ae;rw[e4]at ih;simp(disch:=try exact ac)
  grind[fS,lo]
def bI(w:Mz)(x:LiQ):LiQ:=w.map fun v=>pV x v
theorem Ha{x:LiQ}{w:Mz}(hw:w.length<1000)(hl:∀v∈w,v.length=x.length)(hn:x.length<=64)(hx:bd9 x)(hv:∀v∈w,bd9 v)(b0:Nat×Bk)(h0:Hp)(K:KL):∀(q a:Mz),w=a++q ->
  K (.exit 0) [(acU 1).v w.length ((bI w x).map sI)] [b0,(acU 1).b w.length ((bI w x).map sI)] ->
  lp (jw (CX Y) (lst di x) (mat w) (I w.length)) [] h0 [(acU 1).v a.length ((bI a x).map sI),I a.length] [b0,(acU 1).b a.length ((bI a x).map sI)] K
 | [],a,e,hK=>by
  simp only[Zj]at e;subst e;refine ak ?_;have hlt:¬((w.length:Int)<(w.length:Int)):=aa;simp only[jw];simp[hlt];exact hK
 | v::q,a,e,hK=>by
  refine ak ?_;have hlt:((a.length:Int)<(w.length:Int)):=by rw[e];simp;omega
  have hal:a.length<w.length:=aa;have hvm:v∈w:=by rw[e];simp
  have i1:∀h:Hp,ixV h 1 (mat w) (I a.length)=some (.dptr (w.map row) a.length):=fun h=>by simp_all
  have i2:∀h:Hp,ld1 h (.dptr (w.map row) a.length)=some (lst di v):=fun h=>by
   rw[lK row w _ hal];simp only[e,Zk (Z8 _),Za,Zf];rfl
  have l1:aY (lst di x)=some (I x.length):=rfl;obtain⟨H,hH⟩:∃H:Hp,H=[b0,(acU 1).b a.length ((bI a x).map sI)]:=⟨_,rfl⟩;rw[<-hH];simp only[jw];simp[hlt,i1,i2,l1]
  have e48:V.d (D.str [48])=S (itoa 0):=by
   have:itoa 0=[48]:=az;rw[this]
  rw[e48];refine lo (G9 (hl v hvm) hn hx (hv v hvm) _ H _ x v [] [] 0 rfl rfl rfl ae ?_);have hli:eV 1 [.str []] [(0,S (itoa (pV x v)))] H=some ([sI (pV x v)],H):=by simp[eV,gW,jj,toD,norm,sI]
  simp[hli];have ez:bI (a++[v]) x=bI a x++[pV x v]:=by simp[bI]
  refine oh (acU 1) (by_:=16) (k:=1) (cs:=[sI (pV x v)]) aa (by rw[hH];rfl) (by simp[acU,bI]) (by rfl) rfl (by grind) aa (by simp[acU]) ?_;have hs:H.set (acU 1).s ((acU 1).b (a.length+1) ((bI a x).map sI++[sI (pV x v)]))=[b0,(acU 1).b (a.length+1) ((bI a x).map sI++[sI (pV x v)])]:=by rw[hH];rfl
  rw[hs];have ih:=Ha hw hl hn hx hv b0 h0 K q (a++[v]) (by simp[e]) hK;have e4:((a++[v]).length:Int)=(a.length:Int)+1:=ae;rw[e4,ez,Yh,Zr]at ih;simp(disch:=try exact ac)
  simp_all[fS]
theorem R8(h:xE p c w)(hl:x.length=p.length)(hx:bd9 x):CP Y F.gC [tpV p c w,lst di x] (lst sI (bI w x)):=by
 refine vM ?_;simp only[gC,tpV];have l1:aY (mat w)=some (I w.length):=rfl;have hn:=h.lc.n12;have hwl:=h.lw.ml;simp[l1];refine lo (Ha aa (fun v hv=>by rw[h.lw.rl v hv,hl]) aa hx (fun v hv=>h.lw.sm v hv) _ _ _ w [] rfl ?_);simp
 obtain⟨h',e1,_⟩:=nY (acU 1) (L:=w.length) (cells:=(bI w x).map sI) (h:=[(1,.vars [lst di p,mat c,mat w]),(acU 1).b w.length ((bI w x).map sI)]) rfl (by simp[acU,bI]);refine⟨h',?_⟩
 grind[lst,bI]
theorem IA{l:LiQ}(hn:l.length<1000)(hz:bd9 l)(b0:Nat×Bk)(h0:Hp)(K:KL):∀(q a:LiQ),l=a++q->K (.exit 0) [(acU 1).v l.length (l.map di)] [b0,(acU 1).b l.length (l.map di)] ->
  lp (jy (CX Y) (lst sI l) (I l.length)) [] h0 [(acU 1).v a.length (a.map di),I a.length] [b0,(acU 1).b a.length (a.map di)] K
 | [],a,e,hK=>by
  simp only[Zj]at e;subst e;refine ak ?_;have hlt:¬((l.length:Int)<(l.length:Int)):=aa;simp only[jy];simp[hlt];exact hK
 | z::q,a,e,hK=>by
  refine ak ?_;have hlt:((a.length:Int)<(l.length:Int)):=by rw[e];simp;omega
  have hal:a.length<l.length:=aa;have hzb:=hz z (by grind);have i1:∀h:Hp,ixV h 1 (lst sI l) (I a.length)=some (.dptr (l.map sI) a.length):=fun h=>by simp_all
  have i2:∀h:Hp,ld1 h (.dptr (l.map sI) a.length)=some (S (itoa z)):=fun h=>by
   grind[lK,sI]
  obtain⟨H,hH⟩:∃H:Hp,H=[b0,(acU 1).b a.length (a.map di)]:=⟨_,rfl⟩;rw[<-hH];have g1:¬(z>1000000000):=aa;have g2:¬(z < -1000000000):=aa;have hli:eV 1 [.int .i64 0] [(0,I z)] H=some ([di z],H):=by simp[eV,gW,jj,toD,norm];rfl
  simp only[jy];simp[hlt,i1,i2];refine cd (AJ (z:=z) aa) ?_;simp[g1,g2,hli];refine oh (acU 1) (by_:=8) (k:=1) (cs:=[di z]) aa (by rw[hH];rfl) (by simp[acU]) (by rfl) rfl (by grind) aa (by simp[acU]) ?_;have hs:H.set (acU 1).s ((acU 1).b (a.length+1) (a.map di++[di z]))=[b0,(acU 1).b (a.length+1) (a.map di++[di z])]:=by rw[hH];rfl
  rw[hs];have ih:=IA hn hz b0 h0 K q (a++[z]) (by simp[e]) hK;have e4:((a++[z]).length:Int)=(a.length:Int)+1:=ae;rw[e4,Yh,Zr]at ih;simp(disch:=try exact ac)
  simp_all[fS]
theorem TZ(h:xE p c w)(hl:x.length=p.length)(hx:bd9 x)(hr:rcB x=0)(hz:bd9 (bI w x)):CP Y F.gE [tpV p c w,lst di x] (.tup [lst di (bI w x),I 0]):=by
 refine vN ?_;simp only[gE,tpV];have hn:=h.lc.n12;have hwl:=h.lw.ml;have hli:eV 1 [nPQ] [(0,lst di x)] [(1,Bk.vars [lst di p,mat c,mat w]),(0,Bk.none)]=some ([row x],[(1,Bk.vars [lst di p,mat c,mat w]),(0,Bk.none)]):=by simp[eV,gW,jj,toD,norm,lst,row]
 have tb:tbB p.length [x]=0:=by simp[tbB,hr,hl]
 have b1:=Sa h (m:=[x]) ae (by grind);rw[tb]at b1;simp[hli];refine cd (args:=[tpV p c w,mat [x]]) b1 ?_ (by rfl);simp;refine cd (args:=[tpV p c w,lst di x]) (R8 h hl hx) ?_ (by rfl);have l1:aY (lst sI (bI w x))=some (I (bI w x).length):=rfl;simp[l1];refine lo (IA (by grind[bI]) hz _ _ _ (bI w x) [] rfl ?_);simp
 obtain⟨h',e1,_⟩:=nY (acU 1) (L:=(bI w x).length) (cells:=(bI w x).map di) (h:=[(1,.vars [lst di p,mat c,mat w]),(acU 1).b (bI w x).length ((bI w x).map di)]) rfl (by simp[acU]);refine⟨h',?_⟩;simp only[aD,ai,e1,norm];rfl
def p13(k:Nat):LiQ:=ajO.getD (k%10) []
def sO(z:Int):LiQ->LiQ->LiQ
 |a::r,c::t=>(a+z*c)::sO z r t
 |_,_=>[]
theorem DU(z:Int):∀{r t:LiQ},r.length=t.length->(sO z r t).length=r.length
 |[],[],_=>rfl
 |a::r,c::t,h=>by simp[sO,DU z (r:=r) (t:=t) (by simpa using h)]
 |[],_::_,h=>by simp at h
 |_::_,[],h=>by simp at h
def L5(p:LiQ):LiQ:=p.map (lgI 2048)
structure akK(p:LiQ)(l:List Rw):Prop where
 pc:pcB p=0
 i6:in6 p
 hl:0<p.length
 rw:∀r∈l,r.length=p.length∧∀x∈r,x.natAbs<=9
abbrev I4:=Int×Int×Int×Int
def i4D(x:I4):LdQ:=[.int .i8 x.1,.int .i8 x.2.1,.int .i8 x.2.2.1,.int .i8 x.2.2.2]
theorem QR(x:I4):(i4D x).length=4:=rfl
def i4L(x:I4):LiQ:=[x.1,x.2.1,x.2.2.1,x.2.2.2]
def ok4(x:I4):Prop:=(-128<=x.1∧x.1<=127)∧(-128<=x.2.1∧x.2.1<=127)∧(-128<=x.2.2.1∧x.2.2.1<=127)∧(-128<=x.2.2.2∧x.2.2.2<=127)
def mkI(p:LiQ)(x:I4):Rw:=itv p.length (i4L x)
theorem O1{p:LiQ}{g w c:Mz}(hp:pcB p=0)(h0:0<p.length)(h4:p.length<=4)(hm:m.length<=3)(hr:∀r∈m,r.length=p.length)(hz:∀r∈m,∀z∈r,z.natAbs<=9)(R:af6 p.length m g w c f)(vals:Bool):
  CP Y F.gH [lst di p,mat m,B vals] (.tup [tpV p (if vals=true then w else c) (if vals=true then c else w),I 0]):=by
 refine vX ?_;obtain⟨o,g',hf,hg⟩:=R.g0;have lg:xF p.length g:=zk h0 aa R.hg R.bg;have lw:xF p.length w:=zk h0 aa R.hw R.bw;have lc:xF p.length c:=zk h0 aa R.hc (R.bc.mono af)
 have c1:=afb (n:=p.length) (m:=m) (Z8 100000) h0 aa (YD aa aa hr fun r hr' z hz'=>by grind) aa hr (fun r hr' z hz'=>by grind) hf (by grind);rw[hg]at c1;have hlc:=JG aa R.hg R.bg;have c2:=QD (Z8 100000) hlc lg R.gw lw.rl (by grind[xF.ml]) R.wc lc;have c3:=QN (Z8 100000) hlc lg R.gw lw
 have cp:=me (p:=p) aa;rw[hp]at cp;have l1:aY (lst di p)=some (I p.length):=rfl;have ok1:∀m:Mz,okV (mat m)=true:=fun _=>rfl
 have ok2:okV (lst di p)=true:=rfl;simp only[pA]at c1 c2 c3;simp only[gH];simp;refine cd cp ?_;simp[l1];refine cd c1 ?_ (by rfl);simp[ok1];refine cd c2 ?_ (by rfl);simp[ok1];refine cd c3 ?_ (by rfl);simp[ok1];cases vals with
 | false=>
  refine aJ ?_;simp[ok1,ok2];exact⟨_,by rfl⟩
 | true=>
  refine aJ ?_;simp[ok1,ok2];exact⟨_,by rfl⟩
theorem XB{p:LiQ}{e:List I4}{kk:Nat}{vals:Bool}(he:e.length<=3)(hb:∀x∈e,ok4 x)(hp:p.length<=4)(b1 b3:Nat×Bk)(h0:Hp)(K:KL):∀(q a:List I4),e=a++q ->
  K (.exit 0) [(acU 2).v e.length (e.map fun x=>row (mkI p x))] [(1,.vars [.d (.int .u8 kk),lJ i4D e,B vals]),b1,(acU 2).b e.length (e.map fun x=>row (mkI p x)),b3] ->
  lp (jK (CX Y) (.ptr 0 1 0 3) (lst di p)) [] h0 [(acU 2).v a.length (a.map fun x=>row (mkI p x)),I a.length] [(1,.vars [.d (.int .u8 kk),lJ i4D e,B vals]),b1,(acU 2).b a.length (a.map fun x=>row (mkI p x)),b3] K
 | [],a,e1,hK=>by
  simp only[Zj]at e1;subst e1;refine ak ?_;have hlt:¬((e.length:Int)<(e.length:Int)):=aa;have l1:aY (lJ i4D e)=some (I e.length):=rfl;simp only[jK];simp[hlt,l1];exact hK
 | x::q,a,e1,hK=>by
  refine ak ?_;have hlt:((a.length:Int)<(e.length:Int)):=by rw[e1];simp;omega
  have h3:((a.length:Int)<3):=aa;have hal:a.length<e.length:=aa;have hx2:nth (0,0,0,0) e a.length=x:=by rw[mY _ _ hal];simp[e1]
  have hm:=hb x (by grind);have io:CP Y F.b9 [lst di p,.agg [i8V x.1,i8V x.2.1,i8V x.2.2.1,i8V x.2.2.2]] (lst di (mkI p x)):=Cm hm.1 hm.2.1 hm.2.2.1 hm.2.2.2 hp;have l1:aY (lJ i4D e)=some (I e.length):=rfl;have i1:=fun h=>rc i4D QR e h (k:=.i64) (i:=(a.length:Int)) aa aa
  have i2:=fun h=>qZ i4D QR (0,0,0,0) e h (j:=a.length) hal
  rw[hx2]at i2;simp only[Int.toNat_natCast]at i1;have i2':∀h,ldA h 4 (.dptr (e.flatMap i4D) (a.length*4))=some (.agg [i8V x.1,i8V x.2.1,i8V x.2.2.1,i8V x.2.2.2]):=i2;obtain⟨H,hH⟩:∃H:Hp,H=[(1,.vars [.d (.int .u8 kk),lJ i4D e,B vals]),b1,(acU 2).b a.length (a.map fun x=>row (mkI p x)),b3]:=⟨_,rfl⟩;have g1:iZ H 0 1=.vars [.d (.int .u8 kk),lJ i4D e,B vals]:=by rw[hH];rfl
  have li1:eV 1 [nPQ] [(0,lst di (mkI p x))] H=some ([row (mkI p x)],H):=XS ..;have sn:ai H [lst di p,.agg [i8V x.1,i8V x.2.1,i8V x.2.2.1,i8V x.2.2.2]]=some ([lst di p,.agg [i8V x.1,i8V x.2.1,i8V x.2.2.1,i8V x.2.2.2]],H):=by simp[ai,aD,i8V]
  rw[<-hH];simp only[jK];simp[hlt,h3,l1,g1,i1,i2'];refine cd io ?_ sn;simp[li1];refine oh (acU 2) (by_:=24) (k:=1) (cs:=[row (mkI p x)]) aa (by rw[hH];rfl) (by simp[acU]) (by rfl) rfl (by grind) aa (by simp[acU]) ?_
  have hs:H.set (acU 2).s ((acU 2).b (a.length+1) ((a.map fun x=>row (mkI p x))++[row (mkI p x)]))=[(1,.vars [.d (.int .u8 kk),lJ i4D e,B vals]),b1,(acU 2).b (a.length+1) ((a.map fun x=>row (mkI p x))++[row (mkI p x)]),b3]:=by rw[hH];rfl
  rw[hs];have ih:=XB (kk:=kk) (vals:=vals) he hb hp b1 b3 h0 K q (a++[x]) (by grind) hK;have e4:((a++[x]).length:Int)=(a.length:Int)+1:=ae;rw[e4,Yh,Zr]at ih;simp(disch:=try exact ac)
  simp_all[fS]
theorem SV{k:Nat}{e:List I4}{vals:Bool}{g w c:Mz}{f:Nat}(hk:k<256)(he:e.length<=3)(hb:∀x∈e,ok4 x)(R:af6 (k9 k).length (e.map (mkI (k9 k))) g w c f) :
  CP Y F.ie [.agg [.d (.int .u8 k),lJ i4D e,B vals]] (tpV (k9 k) (if vals=true then w else c) (if vals=true then c else w)):=by
 refine xt ?_;obtain⟨p1,p2,p3,p4,p5⟩:=adM _ (HE k);obtain⟨p,hp⟩:=nmQ (k9 k);have pk:=LH hk;rw[<-hp]at p1 p2 p3 p4 p5 R pk ⊢
 have bu:=O1 p1 p3 p4 (by grind) (fun r hr=>by
  obtain⟨x,_,rfl⟩:=Zy.1 hr
  grind[mkI,itv,i4L]) (fun r hr z hz=>by
  grind[mkI,itv]) R vals
 obtain⟨C,hC⟩:=nmQ (if vals=true then w else c)
 obtain⟨W,hW⟩:=nmQ (if vals=true then c else w)
 rw[<-hC,<-hW]at bu ⊢;have em:mat (e.map (mkI p))=.d (.sl e.length (e.map fun x=>row (mkI p x))):=by simp[lst,Function.comp_def]
 have ok1:∀m:Mz,okV (mat m)=true:=fun _=>rfl
 have ok2:okV (lst di p)=true:=rfl;have ok3:okV (lJ i4D e)=true:=rfl;simp only[tpV]at bu;simp only[ie];simp[ok3];refine cd pk ?_;simp;refine lo (XB (kk:=k) (vals:=vals) he hb p4 _ _ _ _ e [] rfl ?_);simp
 obtain⟨h',e1,hh⟩:=nY (acU 2) (L:=e.length) (cells:=e.map fun x=>row (mkI p x)) (h:=[(1,.vars [.d (.int .u8 k),lJ i4D e,B vals]),(1,.vars [.d nPQ,.d nPQ,.d nPQ]),(acU 2).b e.length (e.map fun x=>row (mkI p x)),nnQ]) rfl (by simp[acU])
 obtain ⟨x,hx⟩:∃x,h'=[(1,.vars [.d (.int .u8 k),lJ i4D e,B vals]),(1,.vars [.d nPQ,.d nPQ,.d nPQ]),x,nnQ]:=by
  rcases hh with⟨_,hh⟩|⟨_,hh⟩
  .grind
  .exact⟨_,hh⟩
 rw[<-em]at e1;have sp:∀h:Hp,aD h (lst di p)=some (lst di p,h):=fun h=>rfl
 have sb:∀h:Hp,aD h (B vals)=some (B vals,h):=fun h=>rfl
 refine pY (ds:=[lst di p,mat (e.map (mkI p)),B vals]) (h':=h') (by simp_all[ai]) bu ?_;rw[show ∀h:Hp,(if cC (V.tup [V.agg [lst di p,mat C,mat W],I 0])=true then h else h')=h' from fun _=>rfl,hx];simp[ok1,ok2];exact⟨_,by rfl⟩
def hq1(l:List Tx):Hp:=[(1,.data 2 (l.flatMap bJ) true false)]
structure aii(p:LiQ)(m:Nat)(bd:List Q):Prop where
 m0:0<m
 m1:m<=1000
 ln:bd.length=p.length
 bd:bdL m 1000 bd
theorem aii.ok{p:LiQ}{m:Nat}(b:aii p m bd):okS bd:=afQ b.m0 b.bd (by have:=b.m1;omega) aa
def pcS(p:LiQ):Prop:=pcB p=0∧∀x∈p,x∈c6P
def ace(m:LLQ):D:=.sl m.length (m.map row)
@[simp]theorem agl(m:LLQ):aY (.d (ace m))=some (I m.length):=rfl
abbrev Lk:=Int×Int
def lkC(x:Lk):LdQ:=[di x.1,di x.2]
def lkD(l:List Lk):D:=.sl l.length (l.flatMap lkC)
@[simp]theorem ahu(l:List Lk):aY (.d (lkD l))=some (I l.length):=rfl
def wkC(p:LiQ)(ch:List LLQ)(lk:List (List Lk)):LwQ:=[lst di p,lst ace ch,lst lkD lk]
def M7(n most:Nat):Int:=if n=0 then 13 else if most<n then 4 else 0
def aas(p:LiQ):List LLQ->Int
 |[]=>0
 |c::l=>if M7 c.length 12≠0 then M7 c.length 12 else if mzB p c≠0 then mzB p c else aas p l
def acf(a b:Nat)(x:Lk):Bool:=decide (0<=x.1)&&decide (x.1<a)&&decide (0<=x.2)&&decide (x.2<b)
def acg(ch:List LLQ):Nat->List (List Lk)->Int
 |_,[]=>0
 |i,l::ls=>if M7 l.length 12≠0 then M7 l.length 12 else if l.all (acf (nth [] ch i).length (nth [] ch (i+1)).length)=true then acg ch (i+1) ls else 3
def dcB(p:LiQ)(ch:List LLQ)(lk:List (List Lk)):Int:=
 if pcB p≠0 then pcB p else if M7 ch.length 64≠0 then M7 ch.length 64 else if aas p ch≠0 then aas p ch else if lk.length+1=ch.length then acg ch 0 lk else 5
def bdR(B:Int)(r:LiQ):Prop:=∀x∈r,-B<=x∧x<=B
def Gn(a b:LiQ):LiQ:=(a.zip b).map fun t=>t.1-t.2
theorem Uw{a b:LiQ}(h:b.length=a.length):(Gn a b).length=a.length:=by simp[Gn,h]
structure Nw(n:Nat)(B:Int)(ch:List LLQ)(lk:List (List Lk)):Prop where
 len:lk.length+1=ch.length
 few:ch.length<=64
 rows:∀c∈ch,∀r∈c,r.length=n∧bdR B r
 cs:∀c∈ch,c.length<=12
 ls:∀l∈lk,l.length<=12
 ok:∀i<lk.length,(nth [] lk i).all (acf (nth [] ch i).length (nth [] ch (i+1)).length)=true
theorem XK{a b:Nat}{x:Lk}:acf a b x=true↔(0<=x.1∧x.1<a)∧0<=x.2∧x.2<b:=by grind[acf]
def Qy(ch:List LLQ)(i:Nat)(x:Lk):LiQ:=nth [] (nth [] ch i) x.1.toNat
def Qx(ch:List LLQ)(i:Nat)(x:Lk):LiQ:=nth [] (nth [] ch (i+1)) x.2.toNat
theorem Nw.notes{B:Int}{lk:List (List Lk)}(w:Nw n B ch lk)(hi:i<lk.length)(hj:j<(nth [] lk i).length):
  let x:=nth (0,0) (nth [] lk i) j
  (0<=x.1∧x.1<(nth [] ch i).length)∧(0<=x.2∧x.2<(nth [] ch (i+1)).length)∧((Qy ch i x).length=n∧bdR B (Qy ch i x))∧(Qx ch i x).length=n∧bdR B (Qx ch i x):=by intro x;have h:=XK.1 (Z2.1 (w.ok i hi) x (dC hj));have hl:=w.len;refine⟨h.1,h.2,w.rows _ (dC aa) _ (dC aa),w.rows _ (dC aa) _ (dC aa)⟩
def Mq(ch:List LLQ)(lk:List (List Lk))(i j:Nat):LiQ:=
 Gn (Qy ch i (nth (0,0) (nth [] lk i) j)) (Qx ch i (nth (0,0) (nth [] lk i) j))
@[simp]theorem ajm(h:Hp)(p:LiQ)(ch:List LLQ)(lk:List (List Lk)):ai h (wkC p ch lk)=some (wkC p ch lk,h):=rfl
def abG(ch:List LLQ)(lk:List (List Lk)):Nat->LiQ->List (List Lk)->LLQ
 |_,r,[]=>[r]
 |i,r,_::q=>r::abG ch lk (i+1) (F7 r (Mq ch lk i 0)) q
def aeI(n:Nat)(ch:List LLQ)(lk:List (List Lk)):LLQ:=abG ch lk 0 (List.replicate n 0) lk
theorem C4{B C:Int}:∀{a b:LiQ},bdR B a->bdR C b->bdR (B+C) (Gn a b)
 |[],b,_,_=>by simp[Gn,bdR]
 |x::a,[],_,_=>by simp[Gn,bdR]
 | x::a,y::b,ha,hb=>by
  intro z hz;simp only[Gn,List.zip_cons_cons,Zv,Zx]at hz;have h1:=ha x ae;have h2:=hb y ae;rcases hz with rfl|hz
  .omega
  .exact C4 (fun w hw=>ha w (by grind)) (fun w hw=>hb w (by grind)) z hz
theorem DI{B C:Int}:∀{a b:LiQ},bdR B a->bdR C b->bdR (B+C) (F7 a b)
 |[],b,_,_=>by simp[F7,bdR]
 |x::a,[],_,_=>by simp[F7,bdR]
 | x::a,y::b,ha,hb=>by
  intro z hz;simp only[F7,List.zip_cons_cons,Zv,Zx]at hz;have h1:=ha x ae;have h2:=hb y ae;rcases hz with rfl|hz
  .omega
  .exact DI (fun w hw=>ha w (by grind)) (fun w hw=>hb w (by grind)) z hz
theorem Nw.lead{B:Int}{lk:List (List Lk)}(w:Nw n B ch lk)(hi:i<lk.length)(hj:j<(nth [] lk i).length):(Mq ch lk i j).length=n∧bdR (B+B) (Mq ch lk i j):=by obtain⟨_,_,⟨n1,n2⟩,n3,n4⟩:=w.notes hi hj;exact⟨by unfold Mq;rw[Uw aa];exact n1,C4 n2 n4⟩
def szI(b:Nat)(r:LiQ):List Q:=r.map fun a=>kX a b
def bdN(B:Nat)(r:LiQ):Prop:=∀a∈r,a.natAbs<=B
theorem Ni{B C:Nat}:∀{r t:LiQ},bdN B r->bdN C t->bdN (B+C) (sO 1 r t)
 |[],t,_,_=>by intro a h;trivial
 |x::r,[],_,_=>by intro a h;trivial
 | x::r,y::t,hr,ht=>by
  have h1:=hr x ae;have h2:=ht y ae;intro a h;simp only[sO,Zx]at h;rcases h with rfl|h
  .omega
  .exact Ni (fun u hu=>hr u (by grind)) (fun u hu=>ht u (by grind)) a h
def TW(p r:LiQ):LiQ:=r.map (af3 ((cS r (L5 p)).sign) * ·)
theorem Nv(p r:LiQ):(TW p r).length=r.length:=by simp[TW]
theorem Sr(z:Int):z.sign = -1∨z.sign=0∨z.sign=1:=by grind
theorem TX(z:Int):af3 z.sign=z.sign:=by rcases Sr z with h|h|h<;>rw[h]<;>rfl
theorem RG{B:Nat}{p:LiQ}(h:bdN B r):bdN B (TW p r):=by
 intro a ha;obtain⟨x,hx,rfl⟩:=Zy.1 ha;have:=h x hx
 grind[TX]
structure Ad where
 p:LiQ
 ch:List LLQ
 lk:List (List Lk)
 cd:List LLQ
 w:Q
def adC(a:Ad):LwQ:=[lst di a.p,lst ace a.ch,lst lkD a.lk,lst ace a.cd,S (itoa a.w.1),S (ah a.w.2)]
@[simp]theorem ajn(h:Hp)(a:Ad):ai h (adC a)=some (adC a,h):=rfl
structure ua(a:Ad):Prop where
 hp:pcS a.p
 wk:Nw a.p.length 8 a.ch a.lk
 lkn:∀l∈a.lk,0<l.length
 cne:∀c∈a.ch,0<c.length
 five:a.ch.length<=5
 cl:a.cd.length=a.ch.length
 cn:∀l∈a.cd,0<l.length∧l.length<=20
 cr:∀l∈a.cd,∀r∈l,r.length=a.p.length∧bdR 8 r
 w0:okQ a.w∧0<=a.w.1∧a.w.1<=1000∧a.w.2<=1000
theorem abr(h:bdR 1000 r):smR r=true:=by simp only[smR,Z2,Z7,decide_eq_true_eq];trivial
theorem FZ{B:Int}(h:bdR B r)(hc:B<=C):bdR C r:=fun x hx=>by have:=h x hx;omega
theorem aec{B:Nat}(h:bdR B r):bdN B r:=fun x hx=>by have:=h x hx;omega
variable{a:Ad}
def abT(a:Ad)(i k:Nat):LiQ:=(TW a.p (nth [] (nth [] a.cd i) k)).map (· * a.w.1)
theorem ua.cand(G:ua a)(hi:i<a.cd.length)(hk:k<(nth [] a.cd i).length):(nth [] (nth [] a.cd i) k).length=a.p.length∧bdR 8 (nth [] (nth [] a.cd i) k):=
 G.cr _ (dC hi) _ (dC hk)
def aeG(a:Ad):LLQ:=aeI a.p.length a.ch a.lk
def shR(a:Ad)(i k:Nat):LiQ:=F7 (nth [] (aeG a) i) (nth [] (nth [] a.cd i) k)
theorem Iz{t:LiQ}(h:t.length=r.length):(F7 r t).length=r.length:=by simp[F7,h]
theorem PR{n:Nat}{ch:List LLQ}{lk:List (List Lk)}(w:Nw n 8 ch lk)(hne:∀l∈lk,0<l.length):∀(q d:List (List Lk))(r:LiQ),d++q=lk->r.length=n->bdR (16*d.length) r->∀j,j<=q.length->(nth [] (abG ch lk d.length r q) j).length=n∧bdR (16*(d.length+j:Nat)) (nth [] (abG ch lk d.length r q) j)
 | [],d,r,hd,hr,hb,j,hj=>by
  have:j=0:=by simpa using hj
  subst this;trivial
 |l::q,d,r,hd,hr,hb,0,hj=>⟨hr,hb⟩
 | l::q,d,r,hd,hr,hb,j+1,hj=>by
  have hdl:d.length<lk.length:=by rw[<-hd];simp
  have hlj:0<(nth [] lk d.length).length:=by rw[<-hd,Dc];exact hne l (by grind)
  obtain⟨m1,m2⟩:=w.lead hdl hlj;have ih:=PR w hne q (d++[l]) (F7 r (Mq ch lk d.length 0)) (by grind) (by rw[Iz aa,hr]) (FZ (DI hb m2) (by grind)) j (by grind);have e:(d++[l]).length=d.length+1:=ae;rw[e]at ih;have e2:d.length+1+j=d.length+(j+1):=aa;rw[e2]at ih;exact ih
theorem ua.root(G:ua a)(hi:i<a.cd.length):(nth [] (aeG a) i).length=a.p.length∧bdR 64 (nth [] (aeG a) i):=by
 have hl:=G.wk.len;have hc:=G.cl;have h5:=G.five;obtain⟨h1,h2⟩:=PR G.wk G.lkn a.lk [] (List.replicate a.p.length 0) rfl ae (fun x hx=>by grind) i aa;refine⟨h1,FZ h2 ?_⟩
 grind
theorem ua.shift(G:ua a)(hi:i<a.cd.length)(hk:k<(nth [] a.cd i).length):(shR a i k).length=a.p.length∧bdR 72 (shR a i k):=by obtain⟨h1,h2⟩:=G.root hi;obtain⟨c1,c2⟩:=G.cand hi hk;exact⟨by unfold shR;rw[Iz aa,h1],DI (B:=64) (C:=8) h2 c2⟩
def mvR(to y fr x:LiQ):LiQ:=Gn (Gn (F7 to y) fr) x
theorem ab8(h1:to.length=n)(h2:y.length=n)(h3:fr.length=n)(h4:x.length=n):(mvR to y fr x).length=n:=by grind[mvR,Gn,F7]
def dB(d:LiQ):Nat×Bk:=(1,.data 1 (d.map di) true false)
def ahl(a:Ad)(i f t:Nat)(x:Lk):LiQ:=mvR (shR a (i+1) t) (Qx a.ch i x) (shR a i f) (Qy a.ch i x)
theorem ae4{A B D:Int}(b1:bdR A to)(b2:bdR B y)(b3:bdR C fr)(b4:bdR D x):bdR (A+B+C+D) (mvR to y fr x):=C4 (C4 (DI b1 b2) b3) b4
def stepG(p:LiQ):LiQ->LLQ->LiQ
 |v,[]=>v
 |v,d::q=>stepG p (sO 1 v (TW p d)) q
def WX(a:Ad)(i f t:Nat):LLQ:=(nth [] a.lk i).map (ahl a i f t)
def Ux(a:Ad)(i f t:Nat):LiQ:=stepG a.p (List.replicate a.p.length 0) (WX a i f t)
theorem ua.move{a:Ad}(G:ua a)(hi:i<a.lk.length)(hf:f<(nth [] a.cd i).length)(ht:t<(nth [] a.cd (i+1)).length):∀d∈WX a i f t,d.length=a.p.length∧bdR 160 d:=by intro d hd;obtain⟨x,hx,rfl⟩:=Zy.1 hd;obtain⟨j,hj,rfl⟩:=Ws hx;have hlen:=G.wk.len;have hcl:=G.cl;obtain⟨_,_,⟨n1,n2⟩,n3,n4⟩:=G.wk.notes hi hj;rw[cF _ _ _ hj]at n1 n2 n3 n4;obtain⟨s1,s2⟩:=G.shift (i:=i) (k:=f) aa hf;obtain⟨t1,t2⟩:=G.shift (i:=i+1) (k:=t) aa ht;exact⟨ab8 t1 n3 s1 n1,ae4 (A:=72) (B:=8) (C:=72) (D:=8) t2 n4 s2 n2⟩
def wI(p r:LiQ):Int:=cS r (L5 p)
def abl:LiQ->LLQ->LiQ
 |v,[]=>v
 |v,d::q=>abl (sO 1 v d) q
structure af9(b:Nat)(c:UInt8)(kb:Nat):Prop where
 hc:ah b=[c]
 c1:¬c=49
 c2:¬c=48
 b2:2<=b
 b8:b<=8
 hkb:bK b=kb
 k2:2<=kb
 k4:kb<=4
 n1:ndg b=1
theorem aed:af9 2 50 2:=⟨az,af,af,af,af,by rfl,af,af,az⟩
variable{b:Nat}{c:UInt8}{kb:Nat}
theorem Md(z:Int):gm z 1=(z,1):=by simp[gm,kX]
theorem tP{n:Int}(hd:d≠0)(h1 : -9223372036854775808<n)(h2:n<9223372036854775808)(h3 : -9223372036854775808<d)(h4:d<9223372036854775808):CP Y F.cu [I n,I d] (.agg (qT (gm n d))):=by refine xq ?_;have fo:=wF hd h1 h2 h3 h4;simp only[qT]at fo;simp only[cu];simp;refine cd fo ?_;simp;exact lW rfl rfl
theorem Kg{s s' e es by_ n k L:Nat}{cells cs:LdQ}{b0:Bk}{h:Hp}{y:V}{q:kkQ}{u:PU q}(hk:0<k)(hs':h[s']?=some (e,.data n cells true false))(hs:h[s]?=some (es,b0))(hc:cells.length=L*n)
  (hcs:cs.length=k*n) (hy:cellsOf h y=some (k,cs)) (hyn:∀t,y≠.d (.str t)) (hb:(L+k)*by_<=140737488355328)
  (hq:q (.ref s (es+1) 0 (L+k) (L+k) (cells++cs).length) (h.set s (es+1,.data n (cells++cs) false false))):rh (apV false s n by_ (.ref s' e 0 L L cells.length) y h) q u:=by
 have e1:apV false s n by_ (.ref s' e 0 L L cells.length) y h q=apC false s n by_ (.ref s' e 0 L L cells.length) k cs h q:=by
  unfold apV;split
  .trivial
  .grind
 show apV false s n by_ (.ref s' e 0 L L cells.length) y h q
 rw[e1];unfold apC;rw[if_neg aa];have g:ax h s' e=.data n cells true false:=by simp[ax,hs']
 simp only[g,true_and,Zi];rw[if_pos ⟨Z8 _,aa,hcs⟩,if_neg aa,if_pos hb];simp only[if_true,new,hs,Yc];rw[Zw aa]
 grind
def gtB(w:Mz):Int:=if w.length≠2 then 5 else if nth 0 (nth [] w 0) 0=0 then 26 else 0
variable{p:LiQ}{c w:Mz}
theorem QX(h:xE p c w):CP Y F.mh [tpV p c w] (I (gtB w)):=by
 refine CH ?_;simp only[mh,tpV];simp;refine cd (args:=[tpV p c w]) (DZ h) ?_ (by rfl);have l1:aY (mat w)=some (I w.length):=rfl;by_cases h2:w.length=2
 .have i1:∀h:Hp,ixV h 1 (mat w) (.d (.int .i64 0))=some (.dptr (w.map row) 0):=fun h=>iC row w h rfl aa
  have i2:∀h:Hp,ld1 h (.dptr (w.map row) 0)=some (lst di (nth [] w 0)):=fun h=>gn row [] w h aa
  have hr:(nth [] w 0).length=p.length:=h.lw.rl _ (by rw[cF _ _ _ aa];simp);have hp:=h.lw.n0;have i3:∀h:Hp,ixV h 1 (lst di (nth [] w 0)) (.d (.int .i64 0))=some (.dptr ((nth [] w 0).map di) 0):=fun h=>iC di _ h rfl aa
  have i4:∀h:Hp,ld1 h (.dptr ((nth [] w 0).map di) 0)=some (I (nth 0 (nth [] w 0) 0)):=fun h=>gn di 0 _ h aa
  have h2':(w.length:Int)=2:=aa;by_cases h0:nth 0 (nth [] w 0) 0=0
  .simp[l1,h2',i1,i2,i3,i4,h0]
   grind[ba,gtB]
  .simp[l1,h2',i1,i2,i3,i4,h0]
   grind[ba,gtB]
 .have h2':¬(w.length:Int)=2:=aa;simp[l1,h2']
  grind[ba,gtB]
theorem MG(h0:0<r.length)(hn:r.length<1000000):CP Y F.iF [lst di r] (lst di r):=by
 refine zH ?_;simp only[iF];have hli:eV 0 [.int .i64 0] [] [(0,Bk.none),(0,Bk.none)]=some ([],[(0,Bk.none),(0,Bk.none)]):=rfl;simp[hli];refine Kg (s:=1) (s':=0) (e:=1) (es:=0) (by_:=8) (n:=1) (L:=0) (k:=r.length) (cells:=[]) (cs:=r.map di) h0 rfl rfl rfl ae rfl (by intro t ht;cases ht) aa ?_
 have sn:=adx ⟨1,0,1,.none⟩ (L:=r.length) (cells:=r.map di) (h:=[(1,Bk.data 1 [] true false),(Acc.b ⟨1,0,1,.none⟩ r.length (r.map di))]) rfl ae;obtain⟨m,hm⟩:∃m,r.length=m+1:=⟨r.length-1,aa⟩
 simp_all[lst]
theorem afo(h:xE p c w)(hg:gtB w=0):CP Y F.jQ [tpV p c w] (.tup [.agg [I (nth 0 (nth [] w 0) 0),lst di (nth [] w 0),lst di (nth [] w 1)],I 0]):=by
 refine wE ?_;simp only[jQ,tpV];simp;have a1:=QX h;rw[hg]at a1
 have h2:w.length=2:=by
  apply Classical.byContradiction;intro e;simp[gtB,e]at hg
 refine cd (args:=[tpV p c w]) a1 ?_ (by rfl);have i1:∀h:Hp,ixV h 1 (mat w) (.d (.int .i64 0))=some (.dptr (w.map row) 0):=fun h=>iC row w h rfl aa
 have i2:∀h:Hp,ld1 h (.dptr (w.map row) 0)=some (lst di (nth [] w 0)):=fun h=>gn row [] w h aa
 have j1:∀h:Hp,ixV h 1 (mat w) (.d (.int .i64 1))=some (.dptr (w.map row) 1):=fun h=>iC row w h rfl aa
 have j2:∀h:Hp,ld1 h (.dptr (w.map row) 1)=some (lst di (nth [] w 1)):=fun h=>gn row [] w h aa
 have hr:(nth [] w 0).length=p.length:=h.lw.rl _ (by rw[cF _ _ _ aa];simp);have hr1:(nth [] w 1).length=p.length:=h.lw.rl _ (by rw[cF _ _ _ aa];simp);have hp:=h.lw.n0;have hn:=h.lc.n12;have i3:∀h:Hp,ixV h 1 (lst di (nth [] w 0)) (.d (.int .i64 0))=some (.dptr ((nth [] w 0).map di) 0):=fun h=>iC di _ h rfl aa
 have i4:∀h:Hp,ld1 h (.dptr ((nth [] w 0).map di) 0)=some (I (nth 0 (nth [] w 0) 0)):=fun h=>gn di 0 _ h aa
 simp[i1,i2,i3,i4];refine cd (MG (r:=nth [] w 0) aa aa) ?_;simp[j1,j2];refine cd (MG (r:=nth [] w 1) aa aa) ?_;have ok1:∀m:LiQ,okV (lst di m)=true:=fun _=>rfl
 simp[ok1];exact⟨_,rfl⟩
structure Nx(p:LiQ)(w:Mz)(x:LiQ):Prop where
 l:x.length=p.length
 b:bd9 x
 r:rcB x=0
 t:bd9 (bI w x)
def tpD(w:Mz)(l:Mz):LdQ:=l.map fun x=>row (bI w x)
theorem Pt(w l:Mz):(tpD w l).length=l.length:=by simp[tpD]
theorem abk(w a:Mz)(x:LiQ):tpD w (a++[x])=tpD w a++[row (bI w x)]:=by simp[tpD]
theorem Py(h:xE p c w){l:Mz}(hl:l.length<1000)(ho:∀x∈l,Nx p w x)(b1:Nat×Bk)(h0:Hp)(K:KL):∀(q a:Mz),l=a++q ->
  K (.exit 1) [(acU 2).v l.length (tpD w l)] [(1,.vars [lst di p,mat c,mat w]),b1,(acU 2).b l.length (tpD w l)] ->
  lp (jF (CX Y) (.ptr 0 1 0 3) (mat l) (I l.length)) [] h0 [(acU 2).v a.length (tpD w a),I a.length] [(1,.vars [lst di p,mat c,mat w]),b1,(acU 2).b a.length (tpD w a)] K
 | [],a,e,hK=>by
  simp only[Zj]at e;subst e;refine ak ?_;have hlt:¬((l.length:Int)<(l.length:Int)):=aa;simp only[jF];simp[hlt];exact hK
 | x::q,a,e,hK=>by
  refine ak ?_;have hlt:((a.length:Int)<(l.length:Int)):=by rw[e];simp;omega
  have hal:a.length<l.length:=aa;have hx:=ho x (by grind);have i1:∀h:Hp,ixV h 1 (mat l) (I a.length)=some (.dptr (l.map row) a.length):=fun h=>by simp_all
  have i2:∀h:Hp,ld1 h (.dptr (l.map row) a.length)=some (lst di x):=fun h=>by
   rw[lK row l _ hal];simp only[e,Zk (Z8 _),Za,Zf];rfl
  obtain⟨H,hH⟩:∃H:Hp,H=[(1,.vars [lst di p,mat c,mat w]),b1,(acU 2).b a.length (tpD w a)]:=⟨_,rfl⟩;have g1:iZ H 0 1=.vars [lst di p,mat c,mat w]:=by rw[hH];rfl
  have tl:(bI w x).length<1000000:=by simp only[bI,List.length_map];have:=h.lw.ml;omega
  rw[<-hH];have hli:eV 1 [nPQ] [(0,lst di (bI w x))] H=some ([row (bI w x)],H):=by simp[eV,gW,jj,toD,norm,lst,row]
  simp only[jF];simp[hlt,i1,i2,g1];refine cd (args:=[tpV p c w,lst di x]) (TZ h hx.l hx.b hx.r hx.t) ?_ (by rfl);simp[hli];refine oh (acU 2) (by_:=24) (k:=1) (cs:=[row (bI w x)]) aa (by rw[hH];rfl) (by simp[acU,Pt]) (by rfl) rfl (by grind) aa (by simp[acU]) ?_
  have hs:H.set (acU 2).s ((acU 2).b (a.length+1) (tpD w a++[row (bI w x)]))=[(1,.vars [lst di p,mat c,mat w]),b1,(acU 2).b (a.length+1) (tpD w a++[row (bI w x)])]:=by rw[hH];rfl
  rw[hs];have ih:=Py h hl ho b1 h0 K q (a++[x]) (by simp[e]) hK;have e4:((a++[x]).length:Int)=(a.length:Int)+1:=ae;rw[e4,abk,Zr]at ih;simp(disch:=try exact ac)
  simp_all[fS]
theorem IK(h:xE p c w)(hg:gtB w=0){l:Mz}(hl:l.length<=60)(ho:∀x∈l,Nx p w x)(hm:mzB p l=0):CP Y F.cT [tpV p c w,mat l] (.tup [mat (l.map (bI w)),I (nth 0 (nth [] w 0) 0),I 0]):=by
 refine qH ?_;simp only[cT,tpV];simp;refine cd (args:=[tpV p c w]) (afo h hg) ?_ (by rfl);have l1:aY (mat l)=some (I l.length):=rfl;have g60:¬((l.length:Int)>60):=aa;have ok1:∀m:LiQ,okV (lst di m)=true:=fun _=>rfl
 have hn:=h.lc.n12;have a2:=L9 (p:=p) (m:=l) aa aa;rw[hm]at a2;simp[l1,g60,ok1];refine cd a2 ?_ (by rfl);simp[l1];refine lo (Py h aa ho _ _ _ l [] rfl ?_);simp
 obtain⟨h',e1,_⟩:=nY (acU 2) (L:=l.length) (cells:=tpD w l) (h:=[(1,.vars [lst di p,mat c,mat w]),(1,.vars [I (nth 0 (nth [] w 0) 0),lst di (nth [] w 0),lst di (nth [] w 1)]),(acU 2).b l.length (tpD w l)]) rfl (by simp[acU,Pt]);refine⟨h',?_⟩
 simp_all[aD,ai,lst,tpD]
theorem Lz{a:Q}(h:okQ a):okQ (vh a):=⟨h.1,by simp only[vh,Xw];exact h.2⟩
theorem P9{a:Q}{K:Nat}(h:qL K a):qL K (vh a):=⟨by simp only[vh,Xw];exact h.1,h.2⟩
theorem Tn{a:Q}(la:qL 100000 a):CP Y F.nD [.agg (qT a)] (.agg (qT (vh a))):=by refine Fu ?_;have n1:=zd (z:=a.1) (by have:=la.1;omega);simp only[nD,qT,vh];simp;refine cd n1 ?_;simp;simp[lW]
theorem Tl{a b:Q}(ha:okQ a)(hb:okQ b)(la:qL 50000 a)(lb:qL 50000 b):CP Y F.nB [.agg (qT a),.agg (qT b)] (.agg (qT (o5 a (vh b)))):=by
 refine Fs ?_;have n1:=Tn (a:=b) (lb.mono aa);have n2:=MI ha (Lz hb) (la.mono aa) ((P9 lb).mono aa);obtain⟨x,y,hxy⟩:∃x y,qT (o5 a (vh b))=[S x,S y]:=⟨_,_,rfl⟩;obtain⟨x2,y2,hxy2⟩:∃x y,qT (vh b)=[S x,S y]:=⟨_,_,rfl⟩;rw[hxy,hxy2]at n2;rw[hxy2]at n1;rw[hxy];simp only[qT]at n1 n2 ⊢;simp only[nB];simp
 refine cd n1 ?_ (by rfl);simp;refine cd n2 ?_ (by rfl);simp;simp[lW]
theorem N4{p:LiQ}{k:Q}(hp:pcB p=0)(h0:0<p.length)(hN:p.length<1000)(hk:okQ k∧qL 30 k)(hr:okS (rN p.length [mL p.length] [k])):CP Y F.fV [lst di p,.agg (qT k)] (.tup [szV (rN p.length [mL p.length] [k]),I 0]):=by refine yK ?_;have a1:=Tu (p:=p) hp aa h0;have a2:=UW (p:=p) (s:=mL p.length) (k:=k) hp aa (by grind[mL]) (OM _) hk hr;simp only[qT]at a2 ⊢;simp only[fV];simp;refine cd a1 ?_;simp;refine cd a2 ?_ (by rfl);simp;exact⟨_,rfl⟩
def ii(r:LiQ)(div:Int)(i:Nat)(x:Int):Q:=if i=0 then qU (o5 (x,1) (vh (gm (nth 0 r 0) div))) (nth 0 r 1,1)else qU (x,1) (nth 0 r 1,1)
def kt(r:LiQ)(div:Int):Nat->LiQ->List Q
 |_,[]=>[]
 |i,x::q=>ii r div i x::kt r div (i+1) q
theorem HC(r:LiQ)(div:Int):∀(i:Nat)(a:LiQ)(x:Int),kt r div i (a++[x])=kt r div i a++[ii r div (i+a.length) x]
 |i,[],x=>by rfl
 | i,y::a,x=>by
  simp only[List.cons_append,kt,HC r div (i+1) a x,List.length_cons];rw[show i+1+a.length=i+(a.length+1) by omega]
theorem tO(r:LiQ)(div:Int):∀(i:Nat)(a:LiQ),(kt r div i a).length=a.length
 |_,[]=>rfl
 |i,_::a=>by simp[kt,tO r div (i+1) a]
def prA:Acc:=⟨4,0,2,.none⟩
def prC(s:List Q):LdQ:=(s.map tx).flatMap bJ
theorem Qi(s:List Q):(prC s).length=s.length*2:=by rw[prC,jS bJ ci,List.length_map]
theorem abP(s:List Q)(k:Q):prC (s++[k])=prC s++bJ (tx k):=by simp[prC]
def prV(s:List Q):V:=if s=[]then .ref 1 1 0 0 0 0 else prA.v s.length (prC s)
def prH(by_:Q)(s:List Q):Hp:=[(1,.vars (qT by_)),(1,.data 2 [] true false),nnQ,nnQ,prA.b s.length (prC s)]
theorem aeM{s:List Q}{k b:Q}{s2 s3:Nat×Bk}{q:kkQ}{u:PU q}(hn:s.length<1000)
  (hq:q (prV (s++[k])) [(1,.vars (qT b)),(1,.data 2 [] true false),s2,s3,prA.b (s.length+1) (prC (s++[k]))]) :
  rh (apV false 4 2 32 (prV s) (.d (.sl 1 (bJ (tx k)))) [(1,.vars (qT b)),(1,.data 2 [] true false),s2,s3,prA.b s.length (prC s)]) q u:=by
 by_cases e:s=[]
 .subst e;trivial
 .rw[prV,if_neg e];refine oh prA (by_:=32) (k:=1) (cs:=bJ (tx k)) aa rfl (by rw[Qi];rfl) rfl rfl (by grind) aa af ?_
  simp_all[prV,prA,abP]
theorem WE(h : -1000000000<=z∧z<=1000000000):okQ (z,1)∧qL 30 (z,1):=EM z aa aa
theorem Q9(h : -1000000000<=z∧z<=1000000000):CP Y F.fu [I z,I 1] (.tup [.agg (qT (z,1)),I 0]):=by
 have:=wF (n:=z) (d:=1) af aa aa af af
 grind[Md]
theorem Qe{r x:LiQ}{div:Int}(hr2:2<=r.length)(hr:bd9 r)(h1:nth 0 r 1≠0)(hd:div≠0)(hdb : -1000000000<=div∧div<=1000000000)(hx:bd9 x)(hn:x.length<1000)(h0:Hp)(hh0:∃a b c d e,h0=[a,b,(0,c),(0,d),e])(K:KL) :
  ∀(q a:LiQ),x=a++q->K (.exit 0) [prV (kt r div 0 x)] (prH (nth 0 r 1,1) (kt r div 0 x)) ->
  lp (ky (CX Y) (lst di r) (I div) (.ptr 0 1 0 2) (lst di x) (I x.length)) [2,3] h0 [prV (kt r div 0 a),I a.length] (prH (nth 0 r 1,1) (kt r div 0 a)) K
 | [],a,e,hK=>by
  simp only[Zj]at e;subst e;refine ak ?_;have hlt:¬((x.length:Int)<(x.length:Int)):=aa;simp only[ky];simp[hlt];exact hK
 | z::q,a,e,hK=>by
  refine ak ?_;have hlt:((a.length:Int)<(x.length:Int)):=by rw[e];simp;omega
  have hal:a.length<x.length:=aa;have hz:=hx z (by grind);have i1:∀h:Hp,ixV h 1 (lst di x) (I a.length)=some (.dptr (x.map di) a.length):=fun h=>by simp_all
  have i2:∀h:Hp,ld1 h (.dptr (x.map di) a.length)=some (I z):=fun h=>by
   simp_all
  have hr1 : -1000000000<=nth 0 r 1∧nth 0 r 1<=1000000000:=hr _ (dC aa);have hr0 : -1000000000<=nth 0 r 0∧nth 0 r 0<=1000000000:=hr _ (dC aa);have j1:∀h:Hp,ixV h 1 (lst di r) (.d (.int .i64 0))=some (.dptr (r.map di) 0):=fun h=>iC di r h rfl aa
  have j2:∀h:Hp,ld1 h (.dptr (r.map di) 0)=some (I (nth 0 r 0)):=fun h=>gn di 0 r h aa
  obtain⟨s,hs⟩:=nmQ (kt r div 0 a);have hsl:s.length=a.length:=by rw[hs,tO]
  have hsn:s.length<1000:=aa;have eG:kt r div 0 (a++[z])=s++[ii r div a.length z]:=by rw[HC,<-hs,Zi]
  have o1:=WE hz;have o2:=WE hr1;rw[<-hs];simp only[prH,qT];simp only[ky];simp[hlt,i1,i2];refine cd (Q9 hz) ?_;simp only[qT];simp;obtain⟨A,B',c0,d0,E,rfl⟩:=hh0
  have main:∀(kq:Q)(s3:Nat×Bk),okQ kq->qL 50001 kq->ii r div a.length z=qU kq (nth 0 r 1,1)->(s3=nnQ∨∃y:Q,s3=(1,.vars (qT y))) ->
    (bnd (ldA [(1,Bk.vars (qT (nth 0 r 1,1))),(1,Bk.data 2 [] true false),(1,Bk.vars (qT kq)),s3,prA.b s.length (prC s)] 2 (V.ptr 2 1 0 2)) fun v12=>
    bnd (ldA [(1,Bk.vars (qT (nth 0 r 1,1))),(1,Bk.data 2 [] true false),(1,Bk.vars (qT kq)),s3,prA.b s.length (prC s)] 2 (V.ptr 0 1 0 2)) fun v13=>
     cal (CX Y).p [(1,Bk.vars (qT (nth 0 r 1,1))),(1,Bk.data 2 [] true false),(1,Bk.vars (qT kq)),s3,prA.b s.length (prC s)] (V.fn F.jR [] []) [v12,v13] fun v14 h=>
      ext v14 0 fun v15=>
       ext v14 1 fun v16=>
        stD h 2 (V.ptr 2 1 0 2) v15 fun x_1 h=>
         bnd (ldA h 2 (V.ptr 2 1 0 2)) fun v18=>
          dR 1 [D.str [],D.str []] [(0,v18)] h fun v19 h=>
           apV false 4 2 32 (prV s) v19 h fun v20 h=>
            bnd (biI BinOp.add (I ↑a.length) (V.d (D.int IntKind.i64 1))) fun v21=>
             clean [2,3] [v20,v21] h=true ∧
              lp (ky (CX Y) (lst di r) (I div) (V.ptr 0 1 0 2) (lst di x) (I ↑x.length))
               [2,3] [A,B',(0,c0),(0,d0),E] [v20,v21] (aO [2,3] 0 [A,B',(0,c0),(0,d0),E] h) K):=by
   intro kq s3 k1 k2 k3 k4;have dv:=MH k1 o2.1 aa (k2.mono aa) (o2.2.mono aa);rw[<-k3]at dv;obtain⟨kk,hkk⟩:=nmQ (ii r div a.length z);rw[<-hkk]at dv eG;simp only[qT]at dv ⊢;simp;refine cd dv ?_ (by rfl)
   have hli:∀h:Hp,eV 1 [D.str [],D.str []] [(0,.agg [V.d (.str (itoa kk.1)),V.d (.str (ah kk.2))])] h=some (bJ (tx kk),h):=fun h=>adT kk h
   simp[hli];refine aeM (s:=s) (k:=kk) (b:=(nth 0 r 1,1)) hsn ?_;have ih:=Qe hr2 hr h1 hd hdb hx hn [A,B',(0,c0),(0,d0),E] ⟨A,B',c0,d0,E,rfl⟩ K q (a++[z]) (by simp[e]) hK;have e4:((a++[z]).length:Int)=(a.length:Int)+1:=ae;rw[e4,eG]at ih;have ev:prV (s++[kk])=.ref 4 1 0 (s.length+1) (s.length+1) (prC (s++[kk])).length:=by simp[prV,prA,Acc.v]
   have cl:clean [2,3] [prV (s++[kk]),I ((a.length:Int)+1)] [(1,Bk.vars (qT (nth 0 r 1,1))),(1,Bk.data 2 [] true false),(1,Bk.vars (qT kk)),s3,prA.b (s.length+1) (prC (s++[kk]))]=true:=by
    rw[ev];rcases k4 with rfl|⟨y,rfl⟩<;>rfl
   have rs:aO [2,3] 0 [A,B',(0,c0),(0,d0),E] [(1,Bk.vars (qT (nth 0 r 1,1))),(1,Bk.data 2 [] true false),(1,Bk.vars (qT kk)),s3,prA.b (s.length+1) (prC (s++[kk]))]=prH (nth 0 r 1,1) (s++[kk]):=by
    rw[prH,Zr];obtain⟨A1,A2⟩:=A;obtain⟨B1,B2⟩:=B';obtain⟨E1,E2⟩:=E;obtain⟨S1,S2⟩:=s3;rfl
   have ea:biI BinOp.add (I (a.length:Int)) (V.d (D.int IntKind.i64 1))=some (I ((a.length:Int)+1)):=by simp(disch:=try exact ac)
   rw[ea];refine⟨cl,?_⟩;rw[<-rs]at ih;exact ih
  by_cases e0:a=[]
  .refine aJ ?_;have fo:=wF (n:=nth 0 r 0) (d:=div) hd aa aa aa aa;have lz:=w6 (n:=nth 0 r 0) hd;have lL:qL 30 (gm (nth 0 r 0) div):=ER (Zz (qW aa aa) af) (Zz (qW aa aa) af);have sb:=Tl o1.1 lz (o1.2.mono aa) (lL.mono aa)
   have m1:=main (o5 (z,1) (vh (gm (nth 0 r 0) div))) (1,.vars (qT (gm (nth 0 r 0) div))) (Qc o1.1 (Lz lz)) ((VO o1.2 (P9 lL)).mono aa) (by simp[ii,e0]) (.inr ⟨_,rfl⟩);generalize gm (nth 0 r 0) div=w1 at *;generalize o5 (z,1) (vh w1)=w2 at *;simp only[qT]at fo sb m1;simp[e0,j1,j2];refine cd fo ?_;simp;refine cd sb ?_ (by rfl);simp;exact m1
  .refine aJ ?_;have m1:=main (z,1) nnQ o1.1 (o1.2.mono aa) (by simp[ii,e0]) (.inl rfl);simp only[qT]at m1;simp[e0];exact m1
theorem pure_ok{p:LiQ}(hp:pcB p=0)(hl:x.length=p.length)(hr2:2<=r.length)(hr:bd9 r)(h1:nth 0 r 1≠0)(hd:div≠0)(hdb : -1000000000<=div∧div<=1000000000)(hx:bd9 x)(hn:x.length<1000)(h0:x≠[])(ho:okS (kt r div 0 x)):
  CP Y F.gN [lst di p,lst di x,lst di r,I div] (.tup [szV (kt r div 0 x),B true,I 0]):=by
 refine uW ?_;have j1:∀h:Hp,ixV h 1 (lst di r) (.d (.int .i64 1))=some (.dptr (r.map di) 1):=fun h=>iC di r h rfl aa
 have j2:∀h:Hp,ld1 h (.dptr (r.map di) 1)=some (I (nth 0 r 1)):=fun h=>gn di 0 r h aa
 have hr1 : -1000000000<=nth 0 r 1∧nth 0 r 1<=1000000000:=hr _ (dC aa);have fo:=Q9 hr1;have hli:∀h:Hp,eV 0 [D.str [],D.str []] [] h=some ([],h):=fun h=>by rfl
 have l1:aY (lst di x)=some (I x.length):=rfl;have ck:=TI (p:=p) (s:=kt r div 0 x) hp aa (by rw[tO,hl]) ho;simp only[qT]at fo;simp only[gN];simp[j1,j2,h1];refine cd fo ?_;simp[hli,l1];have lp0:=Qe hr2 hr h1 hd hdb hx hn [(1,.vars [S (itoa (nth 0 r 1)),S (ah 1)]),(1,Bk.data 2 [] true false),nnQ,nnQ,nnQ] ⟨_,_,_,_,_,rfl⟩
 refine lo (lp0 _ x [] rfl ?_);simp;obtain⟨s,hs⟩:=nmQ (kt r div 0 x);have hsl:s.length=x.length:=by rw[hs,tO]
 rw[<-hs]at ck ⊢;have hs0:s≠[]:=fun e=>h0 (by grind)
 obtain⟨h',e1,_⟩:=nY prA (L:=s.length) (cells:=prC s) (h:=prH (nth 0 r 1,1) s) rfl (Qi s)
 have e2:aD (prH (nth 0 r 1,1) s) (prV s)=some (szV s,h'):=by
  rw[prV,if_neg hs0,e1];simp[szV,lJ,prC]
 refine pY (ds:=[lst di p,szV s]) (h':=h') ?_ ck ?_
 .simp_all[ai]
 .rw[show(if cC (I 0)=true then prH (nth 0 r 1,1) s else h')=prH (nth 0 r 1,1) s from rfl];simp
  simp_all[jp]
theorem KD{w:Int}(hz:ndg z.natAbs<1000000)(hw:ndg w.natAbs<1000000):CP Y F.d7 [S (itoa z),S (itoa w)] (I (sgn (z-w))):=by
 refine uU ?_;simp[d7];refine cd (mT z) ?_;simp;refine cd (mT w) ?_;by_cases h:sgn z=sgn w
 .have sz:=rO (itoa z);have sw:=rO (itoa w);rw[rZ,wC]at sz sw;simp[h];refine cd sz ?_;simp;refine cd sw ?_;simp;by_cases g:z<0
  .have g2:w<0:=by unfold sgn at h;split at h<;>split at h<;>first|omega|(split at h<;>first|omega|(split at h<;>omega))
   have e:Big.cmp w.natAbs z.natAbs=sgn (z-w):=by
    unfold Big.cmp sgn;split<;>split<;>first|omega|(split<;>omega)
   refine aJ ?_;simp(disch:=try exact ac)[g];refine cd (rI hw hz) ?_;exact ba e
  .have g2:¬w<0:=by unfold sgn at h;split at h<;>split at h<;>first|omega|(split at h<;>first|omega|(split at h<;>omega))
   have e:Big.cmp z.natAbs w.natAbs=sgn (z-w):=by
    unfold Big.cmp sgn;split<;>split<;>first|omega|(split<;>omega)
   refine aJ ?_;simp(disch:=try exact ac)[g];refine cd (rI hz hw) ?_;exact ba e
 .simp[h];by_cases g:sgn z<sgn w
  ·have e:(-1:Int)=sgn (z-w):=by
    revert g;unfold sgn
    split<;>split<;>(try split)<;>(try split)<;>(try split)<;>omega
   simp[g];exact ba e
  ·have e:(1:Int)=sgn (z-w):=by
    revert g h;unfold sgn
    split<;>split<;>(try split)<;>(try split)<;>(try split)<;>omega
   simp[g];exact ba e
theorem PL{d:Nat}(h:0<d):sgn (z*d)=sgn z:=by
 have hd:(0:Int)<d:=aa;unfold sgn;by_cases h0:z=0
 .simp[h0]
 ·have h1:¬z*(d:Int)=0:=fun e=>by
   rcases Int.mul_eq_zero.1 e with e|e<;>omega
  rw[if_neg h0,if_neg h1];by_cases h2:z<0
  .rw[if_pos h2,if_pos (Int.mul_neg_of_neg_of_pos h2 hd)]
  .rw[if_neg h2,if_neg (by have:=Int.mul_pos (show 0<z by omega) hd;omega)]
theorem FB{a b:Q}(ha:okQ a)(hb:okQ b)(la:qL 100000 a)(lb:qL 100000 b):CP Y F.fv [.agg (qT a),.agg (qT b)] (I (sgn (a.1*b.2-b.1*a.2))):=by
 refine yu ?_;have b1:=t6 a;have b2:=t6 b;have la1:=la.1;have la2:=la.2;have lb1:=lb.1;have lb2:=lb.2;have w1:=KD (z:=a.1) (w:=b.1) aa aa;have m1:=nS (z:=a.1) (w:=(b.2:Int)) aa (by rw[Int.natAbs_natCast];omega);have m2:=nS (z:=b.1) (w:=(a.2:Int)) aa (by rw[Int.natAbs_natCast];omega);rw[js]at m1 m2
 have big:∀(z:Int)(n:Nat),ndg z.natAbs<=100000->ndg n<=100000->ndg (z*n).natAbs<1000000:=fun z n h1 h2=>by
  have h3:=Yn (cL z.natAbs) (cL n);rw[<-Yk]at h3;have e:(z*(n:Int)).natAbs=z.natAbs*n:=by rw[Zl,Int.natAbs_natCast]
  rw[<-e]at h3;have h4:=cQ (d:=ndg z.natAbs+ndg n+1) (Z3 h3 (Z4 af aa)) aa;omega
 have w2:=KD (z:=a.1*b.2) (w:=b.1*a.2) (big _ _ la1 lb2) (big _ _ lb1 la2);simp[fv,qT];refine cd (args:=[.agg (qT a)]) b1 ?_ (by rfl);by_cases h1:sdg a.1<=9∧ndg a.2<=9
 .simp[h1.1,h1.2];refine aJ ?_;simp;refine cd (args:=[.agg (qT b)]) b2 ?_ (by rfl);by_cases h2:sdg b.1<=9∧ndg b.2<=9
  ·have sm:∀(z:Int)(n:Nat),sdg z<=9->ndg n<=9->(z*n).natAbs<10^18:=fun z n h1 h2=>by
    have h3:=Yn (qR h1) (Z3 (cL n) (Z4 af h2));rw[Zl,Int.natAbs_natCast];exact Z3 h3 af
   have s1:=sm a.1 b.2 h1.1 h2.2;have s2:=sm b.1 a.2 h2.1 h1.2;simp[h2.1,h2.2];generalize a.1*(b.2:Int)=x at *;generalize b.1*(a.2:Int)=y at *;have wx:IntKind.wrap .i64 x=x:=wrap_i64 ⟨aa,aa⟩;have wy:IntKind.wrap .i64 y=y:=wrap_i64 ⟨aa,aa⟩;rw[wx,wy];refine Nh (fun g=>?_) (fun g=>?_)
   .exact ba (by unfold sgn;rw[if_neg aa,if_pos aa])
   .simp[wx,wy];refine Nh (fun g2=>?_) (fun g2=>?_)
    .exact ba (by unfold sgn;rw[if_neg aa,if_neg aa])
    .exact ba (by unfold sgn;rw[if_pos aa])
  .have h2':(decide (sdg b.1<=9)&&decide (ndg b.2<=9))=false:=by grind
   simp[h2',-Bool.decide_and];by_cases e:a.2=b.2
   .have es:sgn (a.1*b.2-b.1*a.2)=sgn (a.1-b.1):=by rw[e,<-Int.sub_mul,PL hb.1]
    have e2:ah a.2=ah b.2:=by rw[e]
    simp(disch:=try exact ac)[e2];refine cd w1 ?_;exact ba es.symm
   .have e2:¬ah a.2=ah b.2:=fun h=>e (oN h)
    simp(disch:=try exact ac)[e2];refine cd m1 ?_;simp(disch:=try exact ac);refine cd m2 ?_;simp(disch:=try exact ac);refine cd w2 ?_;exact ba rfl
 .have h1':(decide (sdg a.1<=9)&&decide (ndg a.2<=9))=false:=by grind
  .simp[h1',-Bool.decide_and];refine aJ ?_;simp;by_cases e:a.2=b.2
   .have es:sgn (a.1*b.2-b.1*a.2)=sgn (a.1-b.1):=by rw[e,<-Int.sub_mul,PL hb.1]
    have e2:ah a.2=ah b.2:=by rw[e]
    simp(disch:=try exact ac)[e2];refine cd w1 ?_;exact ba es.symm
   .have e2:¬ah a.2=ah b.2:=fun h=>e (oN h)
    simp(disch:=try exact ac)[e2];refine cd m1 ?_;simp(disch:=try exact ac);refine cd m2 ?_;simp(disch:=try exact ac);refine cd w2 ?_;exact ba rfl
structure EnS where
 lo:Option Q
 hi:Option Q
 em:Bool
def oT:Option Q->LwQ
 |some q=>qT q
 |none=>[S [],S []]
def enC(s:EnS):LwQ:=oT s.lo++oT s.hi++[B s.lo.isSome,B s.hi.isSome,B s.em]
def okE(s:EnS):Prop:=(∀q,s.lo=some q->okQ q∧qL 1000 q)∧∀q,s.hi=some q->okQ q∧qL 1000 q
def J1(a b:Q):Int:=sgn (a.1*b.2-b.1*a.2)
def zA(s:EnS)(b:Int)(k:Q):EnS:=
 if b>0 then(match s.lo with
  |none=>{s with lo:=some k}
  |some q=>if J1 k q>0 then{s with lo:=some k}else s)
 else (match s.hi with
  |none=>{s with hi:=some k}
  |some q=>if J1 k q<0 then{s with hi:=some k}else s)
def lX(s:EnS)(a b div:Int):EnS:=if b=0 then{s with em:=s.em||decide (a<0)}else zA s b (qU (gm (-a) div) (b,1))
theorem w5(k:Q):oT (some k)=[S (itoa k.1),S (ah k.2)]:=rfl
theorem AZ(o:Option Q):∃x y:LuQ,oT o=[S x,S y]:=by
 cases o with
 |none=>exact⟨_,_,rfl⟩
 |some q=>exact⟨_,_,rfl⟩
def kpH(x0 x1 x3:Nat×Bk)(e:Nat)(st:EnS):Hp:=[x0,x1,(e,.vars (enC st)),x3]
variable{x0 x1 x3:Nat×Bk}{e:Nat}
theorem wB{st':EnS}{t:Hp}(hu0:aB 4 x0.2=true)(hu1:aB 4 x1.2=true)(hu3:aB 4 x3.2=true)(hst:enC st'=cs):nN 4 (.tup []) (kpH x0 x1 x3 e st') (.tup []) (x0::x1::(e,.vars cs)::x3::t):=by
 subst hst;obtain⟨lo,hi,em⟩:=st';obtain⟨a1,a2,ha⟩:=AZ lo;obtain⟨b1,b2,hb⟩:=AZ hi;refine⟨rfl,?_,.inl ⟨rfl,rfl⟩⟩;have h2:aB 4 (.vars (enC ⟨lo,hi,em⟩))=true:=by simp[enC,ha,hb,aB,ji,under]
 grind[kpH]
theorem acs{st:EnS}{a b div:Int}(hst:okE st)(ha : -2000000000<=a∧a<=2000000000)(hb : -2000000000<=b∧b<=2000000000)(hd:div≠0)(hdb : -1000000000<=div∧div<=1000000000)
  (hu0:aB 4 x0.2=true) (hu1:aB 4 x1.2=true) (hu3:aB 4 x3.2=true):CI Y F.eW [.ptr 2 e 0 7,I a,I b,I div] (kpH x0 x1 x3 e st) (.tup []) (kpH x0 x1 x3 e (lX st a b div)):=by
 refine vK ?_;obtain⟨E0,B0⟩:=x0;obtain⟨E1,B1⟩:=x1;obtain⟨E3,B3⟩:=x3;obtain⟨lo,hi,em⟩:=st;obtain⟨x1,x2,hx⟩:=AZ lo;obtain⟨y1,y2,hy⟩:=AZ hi;have hE:enC ⟨lo,hi,em⟩=[S x1,S x2,S y1,S y2,B lo.isSome,B hi.isSome,B em]:=by simp[enC,hx,hy]
 have hK:kpH (E0,B0) (E1,B1) (E3,B3) e ⟨lo,hi,em⟩=[(E0,B0),(E1,B1),(e,.vars [S x1,S x2,S y1,S y2,B lo.isSome,B hi.isSome,B em]),(E3,B3)]:=by rw[kpH,hE]
 rw[hK];simp only[eW];by_cases b0:b=0
 .subst b0;cases em with
  | true=>
   simp
   grind[wB,lX]
  | false=>
   simp
   grind[wB,enC,lX]
 .have f1:=wF (n:=-a) (d:=div) hd aa aa aa aa
  have f2:CP Y F.fu [I b,I 1] (.tup [.agg (qT (b,1)),I 0]):=by
   have:=wF (n:=b) (d:=1) af aa aa af af
   rwa [Md]at this
  have lz:=w6 (n:=-a) hd;have lL:qL 30 (gm (-a) div):=ER (Zz (qW aa aa) af) (Zz (qW aa aa) af);have o2:=EM b aa aa;have f3:=MH lz o2.1 aa (lL.mono aa) (o2.2.mono aa);have kO:okQ (qU (gm (-a) div) (b,1)):=Qb lz aa
  have kL:qL 1000 (qU (gm (-a) div) (b,1)):=(VN lL o2.2).mono aa;obtain⟨k,hk⟩:=nmQ (qU (gm (-a) div) (b,1))
  have hkf:lX ⟨lo,hi,em⟩ a b div=zA ⟨lo,hi,em⟩ b k:=by
   simp only[lX,if_neg b0,hk]
  rw[<-hk]at f3 kO kL;rw[hkf];generalize gm (-a) div=w1 at *;simp only[qT]at f1 f2 f3;simp(disch:=try exact ac)[b0];refine cd f1 ?_;simp;refine cd f2 ?_ (by rfl);simp;refine cd f3 ?_ (by rfl);simp;refine aJ ?_;by_cases bp:b>0
  .cases lo with
   | none=>
    simp[bp];refine aJ ?_;simp
    grind[wB,zA,enC,w5]
   | some q=>
    have q1:=hst.1 q rfl;have cm:=FB kO q1.1 (kL.mono aa) (q1.2.mono aa);simp only[qT]at cm;simp only[oT,qT,List.cons.injEq,V.d.injEq,D.str.injEq,and_true]at hx;obtain⟨rfl,rfl⟩:=hx;simp[bp];refine cd cm ?_ (by rfl);by_cases cp:sgn (k.1*q.2-q.1*k.2)>0
    .simp[cp];refine aJ ?_;simp
     grind[wB,zA,enC,w5,J1]
    .have bn:¬b<0:=aa;simp[cp,bn];refine aJ ?_;simp[bn];refine aJ ?_;simp
     grind[wB,zA,J1]
  .have bn:b<0:=aa;cases hi with
   | none=>
    simp[bp,bn];refine aJ ?_;simp[bn];refine aJ ?_;simp
    grind[wB,zA,enC,w5]
   | some q=>
    have q1:=hst.2 q rfl;have cm:=FB kO q1.1 (kL.mono aa) (q1.2.mono aa);simp only[qT]at cm;simp only[oT,qT,List.cons.injEq,V.d.injEq,D.str.injEq,and_true]at hy;obtain⟨rfl,rfl⟩:=hy;simp[bp];refine aJ ?_;simp[bn];refine cd cm ?_ (by rfl);by_cases cp:sgn (k.1*q.2-q.1*k.2)<0
    .simp[cp];refine aJ ?_;simp
     grind[wB,zA,enC,w5,J1]
    .simp[cp];refine aJ ?_;simp
     grind[wB,zA,J1]
theorem Mu{st:EnS}{a b:Int}(hst:okE st)(ha : -2000000000<=a∧a<=2000000000)(hb : -2000000000<=b∧b<=2000000000)(hd:div≠0)(hdb : -1000000000<=div∧div<=1000000000):okE (lX st a b div):=by
 unfold lX;by_cases b0:b=0
 .rw[if_pos b0];exact hst
 .rw[if_neg b0];have lz:=w6 (n:=-a) hd;have lL:qL 30 (gm (-a) div):=ER (Zz (qW aa aa) af) (Zz (qW aa aa) af);have o2:=EM b aa aa;have kO:okQ (qU (gm (-a) div) (b,1)):=Qb lz aa;have kL:qL 1000 (qU (gm (-a) div) (b,1)):=(VN lL o2.2).mono aa
  generalize qU (gm (-a) div) (b,1)=k at *;unfold zA;obtain⟨h1,h2⟩:=hst;obtain⟨lo,hi,em⟩:=st;split
  .split
   .exact⟨fun q hq=>by grind,h2⟩
   .split
    .exact⟨fun q hq=>by grind,h2⟩
    trivial
  .split
   .exact⟨h1,fun q hq=>by grind⟩
   .split
    .exact⟨h1,fun q hq=>by grind⟩
    trivial
structure Rg where
 lo:List Q
 hi:List Q
 hl:Bool
 hh:Bool
 em:Bool
def rgV(r:Rg):V:=.agg [szV r.lo,szV r.hi,B r.hl,B r.hh,B r.em]
def oD:Option Q->LdQ
 |some q=>[.str (itoa q.1),.str (ah q.2)]
 |none=>[.str [],.str []]
def enD(s:EnS):LdQ:=oD s.lo++oD s.hi++[.bool s.lo.isSome,.bool s.hi.isSome,.bool s.em]
def RA(s:EnS):Bool:=match s.lo,s.hi with
 |some a,some b=>decide (J1 a b>0)
 |_,_=>false
def scQ(n:Nat)(q:Q):List Q:=rN n [mL n] [q]
def oS(n:Nat):Option Q->List Q
 |some q=>scQ n q
 |none=>[]
def asR(n:Nat)(s:EnS):Rg:=if s.em||RA s then⟨[],[],false,false,true⟩else⟨oS n s.lo,oS n s.hi,s.lo.isSome,s.hi.isSome,false⟩
def okF(n:Nat)(o:Option Q):Prop:=∀q,o=some q->(okQ q∧qL 30 q)∧okS (scQ n q)
theorem Oy(h:Hp)(cs:LdQ)(i:Nat){d:D}(hd:cs[i]?=some d):ld1 h (.dptr cs i)=some (.d d):=by simp[ld1,hd]
theorem aco(h:Hp)(a b:D)(t:LdQ):ldA h 2 (.dptr (a::b::t) 0)=some (.agg [.d a,.d b]):=by rfl
theorem acn(h:Hp)(x y a b:D)(t:LdQ):ldA h 2 (.dptr (x::y::a::b::t) 2)=some (.agg [.d a,.d b]):=by rfl
theorem Uz(x0:Nat×Bk)(v b c d e:V)(s:List Q):st [x0,(1,.vars [v,b,c,d,e])] 1 (.ptr 1 1 0 5) (szV s)=some [x0,(1,.vars [szV s,b,c,d,e])]:=rfl
theorem aic{p:LiQ}{st:EnS}(hp:pcB p=0)(h0:0<p.length)(hN:p.length<1000)(h1:okF p.length st.lo)(h2:okF p.length st.hi):CP Y F.jd [.dptr (enD st) 0,lst di p] (.tup [rgV (asR p.length st),I 0]):=by
 refine xP ?_;obtain⟨lo,hi,em⟩:=st;have sc:∀q,(okQ q∧qL 30 q)∧okS (scQ p.length q)->CP Y F.fV [lst di p,.agg (qT q)] (.tup [szV (scQ p.length q),I 0]):=fun q hq=>N4 hp h0 hN hq.1 hq.2
 have okz:∀s:List Q,okV (szV s)=true:=fun _=>rfl
 obtain⟨a1,a2,hlo⟩:∃a1 a2,oD lo=[.str a1,.str a2]:=by cases lo<;>exact⟨_,_,rfl⟩
 obtain⟨b1,b2,hhi⟩:∃b1 b2,oD hi=[.str b1,.str b2]:=by cases hi<;>exact⟨_,_,rfl⟩
 obtain⟨C,hC⟩:=nmQ (enD ⟨lo,hi,em⟩);have hC2:C=[.str a1,.str a2,.str b1,.str b2,.bool lo.isSome,.bool hi.isSome,.bool em]:=by rw[hC];simp[enD,hlo,hhi]
 have l4:∀h,ld1 h (.dptr C 4)=some (B lo.isSome):=fun h=>Oy h C 4 (by grind)
 have l5:∀h,ld1 h (.dptr C 5)=some (B hi.isSome):=fun h=>Oy h C 5 (by grind)
 have l6:∀h,ld1 h (.dptr C 6)=some (B em):=fun h=>Oy h C 6 (by grind)
 have m0:∀h,ldA h 2 (.dptr C 0)=some (.agg [S a1,S a2]):=fun h=>by grind[aco]
 have m2:∀h,ldA h 2 (.dptr C 2)=some (.agg [S b1,S b2]):=fun h=>by grind[acn]
 rw[<-hC];simp only[jd];cases em with
 | true=>
  simp[l6];exact⟨_,rfl⟩
 | false=>
  cases lo with
  | none=>
   cases hi with
   | none=>
    simp[l6,l4,l5];refine aJ ?_;simp[l5];refine aJ ?_;simp;exact⟨_,rfl⟩
   | some b=>
    have hb:=h2 b rfl;have s2:=sc b hb;simp only[oD,List.cons.injEq,D.str.injEq,and_true]at hhi;obtain⟨rfl,rfl⟩:=hhi;simp only[qT]at s2;simp[l6,l4,l5];refine aJ ?_;simp[l5];refine aJ ?_;simp[m2];refine cd s2 ?_ (by rfl);simp[okz];exact⟨_,rfl⟩
  | some a=>
   have ha:=h1 a rfl;have s1:=sc a ha;simp only[oD,List.cons.injEq,D.str.injEq,and_true]at hlo;obtain⟨rfl,rfl⟩:=hlo;cases hi with
   | none=>
    simp only[qT]at s1;simp[l6,l4,l5];refine aJ ?_;simp[m0];refine cd s1 ?_ (by rfl);simp[Uz,l5];refine aJ ?_;simp;exact⟨_,rfl⟩
   | some b=>
    have hb:=h2 b rfl;have s2:=sc b hb;simp only[oD,List.cons.injEq,D.str.injEq,and_true]at hhi;obtain⟨rfl,rfl⟩:=hhi;have cm:=FB ha.1.1 hb.1.1 (ha.1.2.mono aa) (hb.1.2.mono aa);simp only[qT]at s1 s2 cm;simp[l6,l4,l5,m0,m2];refine cd cm ?_ (by rfl);by_cases cp:sgn (a.1*b.2-b.1*a.2)>0
    .have ea:asR p.length ⟨some a,some b,false⟩=⟨[],[],false,false,true⟩:=by simp[asR,RA,J1,cp]
     rw[ea];simp[cp];exact⟨_,rfl⟩
    .have ea:asR p.length ⟨some a,some b,false⟩=⟨scQ p.length a,scQ p.length b,true,true,false⟩:=by simp[asR,RA,J1,cp,oS]
     rw[ea];simp[cp,l4,l5];refine aJ ?_;simp[m0];refine cd s1 ?_ (by rfl);simp[Uz,l5];refine aJ ?_;simp[m2];refine cd s2 ?_ (by rfl);simp[okz];exact⟨_,rfl⟩
def Eb(div:Int):EnS->LiQ->Mz->EnS
 |st,_,[]=>st
 |st,r,s::q=>Eb div (lX st (nth 0 s 0-nth 0 r 0) (nth 0 s 1-nth 0 r 1) div) s q
theorem Hh{rows:Mz}{div:Int}(hn:rows.length<1000)(h2:∀r∈rows,r.length=2∧bd9 r)(hd:div≠0)(hdb : -1000000000<=div∧div<=1000000000){x0 x1:Nat×Bk}(hu0:aB 4 x0.2=true)(hu1:aB 4 x1.2=true)
  (o0:offB [3] x0.2=true) (o1:offB [3] x1.2=true) (h0:Hp) (hh:∃a b c d,h0=[a,b,c,(0,d)]) (K:KL):∀(q a:Mz)(r:LiQ)(st:EnS),rows=a++r::q->okE st ->
  K (.exit 0) [] (kpH x0 x1 nnQ 1 (Eb div st r q)) ->
  lp (lu (CX Y) (mat rows) (I div) (.ptr 2 1 0 7)) [3] h0 [I ((a.length:Int)+1)] (kpH x0 x1 nnQ 1 st) K
 | [],a,r,st,e,hst,hK=>by
  refine ak ?_;have hl:rows.length=a.length+1:=by rw[e];simp
  have l1:aY (mat rows)=some (I rows.length):=rfl;have hlt:¬((a.length:Int)+1<(rows.length:Int)):=aa;simp only[lu];simp[l1,hlt];exact hK
 | s::q,a,r,st,e,hst,hK=>by
  refine ak ?_;have hl:a.length+1<rows.length:=by rw[e];simp
  have l1:aY (mat rows)=some (I rows.length):=rfl;have hlt:((a.length:Int)+1<(rows.length:Int)):=aa;have hrm:r∈rows:=by rw[e];simp
  have hsm:s∈rows:=by rw[e];simp
  obtain⟨r2,rb⟩:=h2 r hrm;obtain⟨s2,sb⟩:=h2 s hsm;have R0:∀h:Hp,ixV h 1 (mat rows) (I a.length)=some (.dptr (rows.map row) a.length):=fun h=>iC row rows h rfl aa
  have R1:∀h:Hp,ixV h 1 (mat rows) (I ((a.length:Int)+1))=some (.dptr (rows.map row) (a.length+1)):=fun h=>iC row rows h aa hl
  have L0:∀h:Hp,ld1 h (.dptr (rows.map row) a.length)=some (lst di r):=fun h=>by
   rw[lK row rows _ aa];simp only[e,Zk (Z8 _),Za,Zf];rfl
  have L1:∀h:Hp,ld1 h (.dptr (rows.map row) (a.length+1))=some (lst di s):=fun h=>by
   have e5:rows[a.length+1]=s:=by simp[e]
   rw[lK row rows _ hl,e5];rfl
  have X:∀(t:LiQ),t.length=2->∀h:Hp,ixV h 1 (lst di t) (.d (.int .i64 0))=some (.dptr (t.map di) 0)∧ld1 h (.dptr (t.map di) 0)=some (I (nth 0 t 0))∧ixV h 1 (lst di t) (.d (.int .i64 1))=some (.dptr (t.map di) 1)∧ld1 h (.dptr (t.map di) 1)=some (I (nth 0 t 1)):=fun t ht h=>
   ⟨iC di t h rfl aa,gn di 0 t h aa,iC di t h rfl aa,gn di 0 t h aa⟩
  have Xr:=X r r2;have Xs:=X s s2;have r0b:=rb (nth 0 r 0) (dC aa);have r1b:=rb (nth 0 r 1) (dC aa);have s0b:=sb (nth 0 s 0) (dC aa);have s1b:=sb (nth 0 s 1) (dC aa);have kp:=acs (x0:=x0) (x1:=x1) (x3:=nnQ) (e:=1) (a:=nth 0 s 0-nth 0 r 0) (b:=nth 0 s 1-nth 0 r 1) hst aa aa hd hdb hu0 hu1 rfl
  have kE:=Mu (a:=nth 0 s 0-nth 0 r 0) (b:=nth 0 s 1-nth 0 r 1) hst aa aa hd hdb;have ih:=Hh hn h2 hd hdb hu0 hu1 o0 o1 h0 hh K q (a++[r]) s _ (by simp[e]) kE hK;have e4:((a++[r]).length:Int)=(a.length:Int)+1:=ae;rw[e4]at ih;obtain⟨H,hH⟩:=nmQ (kpH x0 x1 nnQ 1 st);rw[<-hH]at kp ⊢;simp only[lu]
  simp(disch:=try exact ac)[l1,hlt,R1,L1,R0,L0,(Xr _).1,(Xr _).2.1,(Xr _).2.2.1,(Xr _).2.2.2,(Xs _).1,(Xs _).2.1,(Xs _).2.2.1,(Xs _).2.2.2];refine gL kp ?_ ae
  have cl:clean [3] [I ((a.length:Int)+1+1)] (kpH x0 x1 nnQ 1 (lX st (nth 0 s 0-nth 0 r 0) (nth 0 s 1-nth 0 r 1) div))=true:=by
   simp only[clean,Z7];refine⟨rfl,EL 0 _ fun y hy=>?_⟩;simp only[kpH,Zx,Yp,or_false]at hy;rcases hy with rfl|rfl|rfl|rfl
   .exact o0
   .exact o1
   .obtain⟨a1,a2,e1⟩:=AZ (lX st (nth 0 s 0-nth 0 r 0) (nth 0 s 1-nth 0 r 1) div).lo;obtain⟨b1,b2,e2⟩:=AZ (lX st (nth 0 s 0-nth 0 r 0) (nth 0 s 1-nth 0 r 1) div).hi;simp only[enC,e1,e2];rfl
   .rfl
  have rs:aO [3] 0 h0 (kpH x0 x1 nnQ 1 (lX st (nth 0 s 0-nth 0 r 0) (nth 0 s 1-nth 0 r 1) div))=kpH x0 x1 nnQ 1 (lX st (nth 0 s 0-nth 0 r 0) (nth 0 s 1-nth 0 r 1) div):=by
   obtain⟨a',b',c',d',rfl⟩:=hh;obtain⟨A1,A2⟩:=a';obtain⟨B1,B2⟩:=b';obtain⟨C1,C2⟩:=c';obtain⟨X1,X2⟩:=x0;obtain⟨Y1,Y2⟩:=x1;rfl
  have ea:biI BinOp.add (I ((a.length:Int)+1)) (V.d (D.int IntKind.i64 1))=some (I ((a.length:Int)+1+1)):=by simp(disch:=try exact ac)
  simp_all
theorem KV{div:Int}(hd:div≠0)(hdb : -1000000000<=div∧div<=1000000000):∀(q:Mz)(r:LiQ)(st:EnS),okE st->(∀s∈r::q,s.length=2∧bd9 s)->okE (Eb div st r q)
 |[],_,_,h,_=>h
 | s::q,r,st,h,hb=>by
  obtain⟨r2,rb⟩:=hb r ae;obtain⟨s2,sb⟩:=hb s ae;have r0b:=rb (nth 0 r 0) (dC aa);have r1b:=rb (nth 0 r 1) (dC aa);have s0b:=sb (nth 0 s 0) (dC aa);have s1b:=sb (nth 0 s 1) (dC aa);exact KV hd hdb q s _ (Mu h aa aa hd hdb) fun t ht=>hb t (by grind)
theorem ahQ(st:EnS):CM (enC st)=some (enD st):=by obtain⟨lo,hi,em⟩:=st;cases lo<;>cases hi<;>rfl
theorem afB(st:EnS):(enC st).length=7:=by obtain⟨lo,hi,em⟩:=st;cases lo<;>cases hi<;>rfl
def en0:EnS:=⟨none,none,false⟩
variable{p:LiQ}{c w:Mz}
theorem Si(h:xE p c w)(hg:gtB w=0){l:Mz}{x:LiQ}{q:Mz}(hlx:l=x::q)(hl:l.length<=60)(ho:∀x∈l,Nx p w x)(hm:mzB p l=0)
  (h1:okF p.length (Eb (nth 0 (nth [] w 0) 0) en0 (bI w x) (q.map (bI w))).lo) (h2:okF p.length (Eb (nth 0 (nth [] w 0) 0) en0 (bI w x) (q.map (bI w))).hi) :
  CP Y F.fW [tpV p c w,mat l] (.tup [rgV (asR p.length (Eb (nth 0 (nth [] w 0) 0) en0 (bI w x) (q.map (bI w)))),I 0]):=by
 refine yL ?_;simp only[fW,tpV];obtain⟨div,hdiv⟩:=nmQ (nth 0 (nth [] w 0) 0)
 have w2:w.length=2:=by
  apply Classical.byContradiction;intro e;simp[gtB,e]at hg
 have hd:div≠0:=by
  rw[hdiv];intro e;simp[gtB,w2,e]at hg
 have hw0:nth [] w 0∈w:=by rw[cF _ _ _ aa];exact Ze _
 have hdb : -1000000000<=div∧div<=1000000000:=by
  rw[hdiv];exact h.lw.sm _ hw0 _ (dC (by rw[h.lw.rl _ hw0];exact h.lw.n0))
 have td:=IK h hg hl ho hm;have hn:=h.lc.n12;rw[<-hdiv]at td h1 h2 ⊢;simp;refine cd (args:=[tpV p c w,mat l]) td ?_ (by rfl);simp
 have hb:∀s∈l.map (bI w),s.length=2∧bd9 s:=fun s hs=>by
  obtain⟨y,hy,rfl⟩:=Zy.1 hs;exact⟨by simp[bI,w2],(ho y hy).t⟩
 have e0:okE en0:=⟨fun q hq=>(by cases hq),fun q hq=>(by cases hq)⟩;have ht:okE (Eb div en0 (bI w x) (q.map (bI w))):=KV hd hdb _ _ _ e0 (by grind)
 refine lo (Hh (rows:=l.map (bI w)) (div:=div) (by grind) hb hd hdb (x0:=(1,.vars [lst di p,mat c,mat w])) (x1:=(1,.vars [nlV,nlV,B false,B false,B false])) rfl rfl rfl rfl _ ⟨_,_,_,_,rfl⟩ _ (q.map (bI w)) [] (bI w x) en0 (by grind) e0 ?_);have aso:=aic (p:=p) (st:=Eb div en0 (bI w x) (q.map (bI w))) h.pr h.lw.n0 aa h1 h2
 generalize Eb div en0 (bI w x) (q.map (bI w))=st at *;obtain⟨R,hR⟩:=nmQ (asR p.length st);rw[<-hR]at aso ⊢
 have sn:ai (kpH (1,.vars [lst di p,mat c,mat w]) (1,.vars [nlV,nlV,B false,B false,B false]) nnQ 1 st) [.ptr 2 1 0 7,lst di p]=some ([.dptr (enD st) 0,lst di p],[(1,.vars [lst di p,mat c,mat w]),(1,.vars [nlV,nlV,B false,B false,B false]),(1,.data 1 (enD st) false true),nnQ]):=by
  have g:ax (kpH (1,.vars [lst di p,mat c,mat w]) (1,.vars [nlV,nlV,B false,B false,B false]) nnQ 1 st) 2 1=.vars (enC st):=rfl;simp only[ai,aD,g,ahQ,afB,if_true];rfl
 obtain⟨H,hH⟩:=nmQ (kpH (1,.vars [lst di p,mat c,mat w]) (1,.vars [nlV,nlV,B false,B false,B false]) nnQ 1 st);rw[<-hH]at sn ⊢;have g0:iZ H 0 1=.vars [lst di p,mat c,mat w]:=by rw[hH];rfl
 simp[g0];refine pY sn aso ?_;have okz:∀s:List Q,okV (szV s)=true:=fun _=>rfl
 simp only[rgV,cC];simp[okz];exact⟨_,rfl⟩
variable{l:Int->Nat}{N:Nat}
theorem agN(s:List Q)(h:Hp)(hi:i<s.length):∃w,ixV h 2 (szV s) (I i)=some w∧ldA h 2 w=some (.agg (qT (nth (0,1) s i))):=by
 have h1:=rc bJ ci (s.map tx) h (k:=.i64) (i:=(i:Int)) aa (by grind);rw[Int.toNat_natCast]at h1;refine⟨_,h1,?_⟩;have h2:=qZ bJ ci (tx (0,1)) (s.map tx) h (j:=i) (by grind);rw[h2]
 have e:nth (tx (0,1)) (s.map tx) i=tx (nth (0,1) s i):=by
  rw[cF _ _ _ (by grind),cF _ _ _ hi,List.getElem_map]
 rw[e];rfl
theorem L6{n:Nat}:∀{m:LLQ},(∀r∈m,r.length=n∧bdR 1000 r)->Gy n m=0
 |[],_=>rfl
 | r::m,h=>by
  obtain⟨h1,h2⟩:=h r ae;simp only[Gy];rw[if_neg aa,if_pos (abr h2)];exact L6 fun x hx=>h x (by grind)
theorem WW{p:LiQ}(hp:pcB p=0){m:LLQ}(h:∀r∈m,r.length=p.length∧bdR 1000 r):mzB p m=0:=by grind[mzB,L6]
theorem FT(h0:0<n)(h1:n<=most):M7 n most=0:=by unfold M7;rw[if_neg aa,if_neg aa]
theorem Ip{p:LiQ}(hp:pcB p=0):∀{ch:List LLQ},(∀c∈ch,(0<c.length∧c.length<=12)∧∀r∈c,r.length=p.length∧bdR 1000 r)->aas p ch=0
 |[],_=>rfl
 | c::q,h=>by
  obtain⟨⟨h1,h2⟩,h3⟩:=h c ae;simp only[aas];rw[if_neg (by grind[FT]),if_neg (by grind[WW])];exact Ip hp fun x hx=>h x (by grind)
theorem HS{n:Nat}{B:Int}{ch:List LLQ}{lk:List (List Lk)}(w:Nw n B ch lk)(hne:∀l∈lk,0<l.length):∀(q d:List (List Lk)),d++q=lk->acg ch d.length q=0
 |[],_,_=>rfl
 | l::q,d,hd=>by
  have hm:l∈lk:=by rw[<-hd];simp
  have hl:nth [] lk d.length=l:=by rw[<-hd,Dc]
  have ok:=w.ok d.length (by grind);rw[hl]at ok;simp only[acg];rw[if_neg (by grind[FT,Nw.ls]),if_pos ok];have:=HS w hne q (d++[l]) (by grind)
  grind
variable{a:Ad}
theorem ua.dc(G:ua a):dcB a.p a.ch a.lk=0:=by
 have h5:=G.five;have hl:=G.wk.len;unfold dcB;rw[if_neg (by simp[G.hp.1]),if_neg (by simp[FT (n:=a.ch.length) (most:=64) aa aa]),if_neg,if_pos hl]
 .exact HS G.wk G.lkn a.lk [] rfl
 .simp[Ip G.hp.1 (ch:=a.ch) fun c hc=>⟨⟨G.cne c hc,G.wk.cs c hc⟩,fun r hr=>⟨(G.wk.rows c hc r hr).1,FZ (G.wk.rows c hc r hr).2 aa⟩⟩]
theorem ua.qL(G:ua a):qL 30 a.w:=by obtain⟨w1,w2,w3,w4⟩:=G.w0;exact⟨cQ (d:=30) aa af,cQ (d:=30) aa af⟩
def stW(a:Ad)(i f t:Nat):LiQ:=(Ux a i f t).map (· * (a.w.2:Int))
theorem KU{p:LiQ}{B:Nat}:∀{m:LLQ}{v:LiQ}{C:Nat},(∀d∈m,d.length=p.length∧bdN B d)->v.length=p.length->bdN C v->(stepG p v m).length=p.length∧bdN (C+B*m.length) (stepG p v m)
 |[],v,C,_,hv,hb=>⟨hv,by trivial⟩
 | d::m,v,C,hm,hv,hb=>by
  obtain⟨d1,d2⟩:=hm d ae;have:=KU (m:=m) (v:=sO 1 v (TW p d)) (C:=C+B) (fun x hx=>hm x (by grind)) (by rw[DU _ (by grind[Nv]),hv]) (Ni hb (RG d2));refine⟨this.1,fun x hx=>?_⟩;have:=this.2 x hx
  grind[Zm]
theorem ua.stepV(G:ua a)(hi:i<a.lk.length)(hf:f<(nth [] a.cd i).length)(ht:t<(nth [] a.cd (i+1)).length):(Ux a i f t).length=a.p.length∧bdN 1920 (Ux a i f t):=by
 have hls:=G.wk.ls _ (dC (d:=[]) hi);obtain⟨h1,h2⟩:=KU (p:=a.p) (B:=160) (C:=0) (m:=WX a i f t) (v:=List.replicate a.p.length 0) (fun d hd=>⟨(G.move hi hf ht d hd).1,aec (B:=160) (G.move hi hf ht d hd).2⟩) ae (fun x hx=>by grind);refine⟨h1,fun x hx=>?_⟩;have:=h2 x hx;have e:(WX a i f t).length=(nth [] a.lk i).length:=by simp[WX]
 omega
theorem RF{B:Nat}(h:bdN B r){w:Int}{W:Nat}(hw:w.natAbs<=W):bdN (B*W) (r.map (· * w)):=by intro x hx;obtain⟨y,hy,rfl⟩:=Zy.1 hx;rw[Zl];exact Zp (h y hy) hw
theorem ua.stepW(G:ua a)(hi:i<a.lk.length)(hf:f<(nth [] a.cd i).length)(ht:t<(nth [] a.cd (i+1)).length):(stW a i f t).length=a.p.length∧bdN 1920000 (stW a i f t):=by obtain⟨w1,w2,w3,w4⟩:=G.w0;obtain⟨h1,h2⟩:=G.stepV hi hf ht;exact⟨by grind[stW],RF (W:=1000) h2 aa⟩
theorem ua.ownW(G:ua a)(hi:i<a.cd.length)(hk:k<(nth [] a.cd i).length):(abT a i k).length=a.p.length∧bdN 8000 (abT a i k):=by obtain⟨w1,w2,w3,w4⟩:=G.w0;obtain⟨c1,c2⟩:=G.cand hi hk;exact⟨by grind[abT,Nv],RF (RG (aec (B:=8) c2)) (W:=1000) aa⟩
def ah1(a:Ad)(c:LiQ):Prop:=c.length=a.cd.length∧∀k<c.length,0<=nth 0 c k∧nth 0 c k<(nth [] a.cd k).length
theorem ah1.at{c:LiQ}(h:ah1 a c){l:LiQ}{z:Int}{q:LiQ}(hl:l++z::q=c):∃m:Nat,z=m∧m<(nth [] a.cd l.length).length:=by obtain⟨h1,h2⟩:=h.2 l.length (by grind);rw[<-hl,Dc]at h1 h2;exact⟨z.toNat,aa,aa⟩
end Go.Vm
