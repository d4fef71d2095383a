/- Lemmas. -/
import Derived.Test.YtmjcaiaiibdadaaGreatDoorQRefRow
set_option linter.unusedVariables false
set_option linter.unusedSimpArgs false
namespace Go.Vm
open Go Go.Am Go.Big
variable{s x y r:LiQ}{t h:Hp}{k n Bd f i E:Nat}{d c' z div:Int}{m:Mz}{cs:LwQ}{o:Nat×Bk}{vals:Bool}
def acL:Acc:=⟨1,0,1,.none⟩
theorem MY{s t:LiQ}(hN:s.length<1000000)(k:KL):∀(q r a b:LiQ),a++q=s->b++r=t->a.length=b.length->q.length=r.length->(q=r->k (.exit 0) [] [])->(q≠r->k .ret [B false] []) ->
  lp (eM (CX Y) (lst di s) (lst di t)) [] [] [I a.length] [] k
 | [],r,a,b,ha,hb,hab,hqr,h0,h1=>by
  simp at ha;subst ha
  have:r=[]:=by cases r with
   |nil=>rfl
   |cons y r=>simp at hqr
  refine aj ?_;simp(disch:=try exact ae)[eM];exact h0 this.symm
 |x::q,[],a,b,ha,hb,hab,hqr,h0,h1=>by simp at hqr
 | x::q,y::r,a,b,ha,hb,hab,hqr,h0,h1=>by
  have hal:a.length<s.length:=by subst ha;simp
  have hbl:a.length<t.length:=by subst hb;simp;omega
  have hx:nth 0 s a.length=x:=by subst ha;simp
  have hy:nth 0 t a.length=y:=by subst hb;rw[hab];simp
  have i1:=mR di s [] (k:=.i64) (i:=(a.length:Int)) aa aa;have i2:=eV di 0 s [] (j:=a.length) hal;have j1:=mR di t [] (k:=.i64) (i:=(a.length:Int)) aa aa;have j2:=eV di 0 t [] (j:=a.length) hbl;rw[hx]at i2;rw[hy]at j2;simp only[Int.toNat_natCast]at i1 j1;have g1:(a.length:Int)<(s.length:Int):=aa;refine aj ?_;by_cases hxy:x=y
  .subst hxy;have ih:=MY hN k q r (a++[x]) (b++[x]) (by simpa using ha) (by simpa using hb) (by simp[hab]) (by simpa using hqr) (λe=>h0 (by rw[e])) (λe=>h1 (by simpa using e));simp(disch:=try exact ae)[eM,i1,i2,j1,j2,g1,hx,hy];simpa using ih
  .simp(disch:=try exact ae)[eM,i1,i2,j1,j2,g1,hx,hy,hxy];exact h1 (by simp[hxy])
theorem AN{t:LiQ}(hN:s.length<1000000):CP Y F.ct [lst di s,lst di t] (B (decide (s=t))):=by
 refine tJ ?_;have l1:aO (lst di s)=some (I s.length):=rfl;have l2:aO (lst di t)=some (I t.length):=rfl;by_cases h:s.length=t.length
 .have g:((s.length:Int)=(t.length:Int))=True:=eq_true aa;simp(disch:=try exact ae)[ct,l1,l2,g]
  have:=MY (s:=s) (t:=t) hN (exK [(Exit.exit 0,λl5 h=>out (B (decide (s=t))) (V.d (D.bool true)) h),(Exit.ret,λl5 h=>out (B (decide (s=t))) (ge l5 0) h)]) s t [] [] rfl rfl rfl h (λg=>by
   simp(disch:=try exact ae);exact gA (by simp[g])) (λg=>by
   simp(disch:=try exact ae);exact gA (by simp[g]))
  refine lo ?_;exact this
 .have g:¬((s.length:Int)=(t.length:Int)):=aa;have:¬s=t:=λe=>h (by rw[e])
  simp(disch:=try exact ae)[ct,l1,l2,g]<;>exact gA (by simp[this])
def tN:LLQ:=[[2,3,5],[2,3,5,7],[2,3],[2,3,7],[2,5,7],[3,5,7],[2,3,5,11],[2],[2,3,7,13],[3,5,7,13]]
def m6(k:Nat):LiQ:=tN.getD (k%10) []
theorem LW(hk:k<256):CP Y F.eT [.d (.int .u8 k)] (lst di (m6 k)):=by
 refine vX ?_;have c1:cvI .i64 (.d (.int .u8 (k:Int)))=some (I k):=by rw[Rm,wrap_i64 ⟨aa,aa⟩]
 have m1:biI .rem (I (k:Int)) (I 10)=some (I ((k%10:Nat):Int)):=by
  rw[acz aa,Zv aa];congr 3
 have hkk:k%10<10:=Yy _ af;have i1:=λH:Hp=>mR row tN H (k:=.i64) (i:=((k%10:Nat):Int)) aa (by show((k%10:Nat):Int)<10;omega)
 have i2:=λH:Hp=>eV row [] tN H (j:=k%10) hkk
 have hn:nth [] tN (k%10)=m6 k:=rfl;rw[hn]at i2;generalize k%10=j at *;simp only[Int.toNat_natCast]at i1;simp(disch:=try exact ae)[eT,eC,iH,kJ,toD,c1];have hw:IntKind.wrap .i64 (k:Int)=(k:Int):=wrap_i64 ⟨aa,aa⟩
 show rn (bnd (aO (lst row tN))) (λv13=>bnd (biI .rem (.d (.int .i64 (IntKind.i64.wrap k))) v13) λv14=>bnd (ixV [] 1 (lst row tN) v14) λv15=>bnd (ld1 [] v15) λv16=>out (lst di (m6 k)) v16 []) .mk
 have l10:aO (lst row tN)=some (I 10):=rfl;rw[hw,l10];rw[adW];rw[show biI .rem (.d (.int .i64 (k:Int))) (I 10)=some (I (j:Int))from m1];rw[AV,i1,AV,i2,AV];exact abg ..
def itv(l:Nat)(e:LiQ):LiQ:=(e.take l).map λx=>x.tmod 10
def i8V(x:Int):V:=.d (.int .i8 x)
def itH(e:LiQ)(L:Nat)(c:LdQ):Hp:=[(1,.vars (e.map i8V)),acL.b L c]
theorem VW:∀e:LiQ,offB [] (.vars (e.map i8V))=true
 |[]=>rfl
 | x::e=>by
  have:=VW e;rw[Qq]at this ⊢;simp[jQ,rF,i8V];simpa[i8V]using this
theorem MF{p:LiQ}{e:LiQ}(he:e.length=4)(hb:∀x∈e,-128<=x∧x<=127)(hp:p.length<=4)(k:KL)(h0:Hp)(hh:h0.length=2):∀(f i:Nat),i+f=p.length ->
  k (.exit 0) [acL.v (itv p.length e).length ((itv p.length e).map di)] (itH e (itv p.length e).length ((itv p.length e).map di)) ->
  lp (gU (CX Y) (lst di p) (.ptr 0 1 0 4)) [] h0 [acL.v (itv i e).length ((itv i e).map di),I i] (itH e (itv i e).length ((itv i e).map di)) k
 | 0,i,hi,hk=>by
  have g:¬(i:Int)<(p.length:Int):=aa;have:i=p.length:=aa;subst this;have l1:aO (lst di p)=some (I p.length):=rfl;refine aj ?_;simp(disch:=try exact ae)[gU,l1];exact hk
 | f+1,i,hi,hk=>by
  have g:(i:Int)<(p.length:Int):=aa;have g2:(i:Int)<4:=aa;have l1:aO (lst di p)=some (I p.length):=rfl;obtain⟨x,hx⟩:∃x,e[i]?=some x:=⟨e[i]'(by omega),List.getElem?_eq_getElem aa⟩;have hxm:=hb x (X4 hx);have li:(itv i e).length=i:=by simp[itv];omega
  have ih:=MF he hb hp k h0 hh f (i+1) aa hk
  have es:itv (i+1) e=itv i e++[x.tmod 10]:=by
   unfold itv;rw[List.take_add_one,hx];simp
  rw[es]at ih;have hlt:i<e.length:=aa
  have hxe:e[i]=x:=by
   have:=List.getElem?_eq_getElem hlt;rw[hx]at this;simpa using this.symm
  have he':4=e.length:=he.symm;have r1 : -10<x.tmod 10:=Int.lt_tmod_of_pos x af;have r2:=Int.tmod_lt_of_pos x (b:=10) af;have li1:∀(z:Int)(H:Hp),eC 1 [D.int IntKind.i64 0] [(0,V.d (D.int IntKind.i64 z))] H=some ([di z],H):=λz H=>by simp[eC,iH,kJ,toD,di]
  have cR:((itv i e).map di).length=(itv i e).length*acL.n:=by simp[acL]
  have bL:∀x y:Nat×Bk,([(1,.vars (e.map i8V)),x]:Hp).set acL.s y=[(1,.vars (e.map i8V)),y]:=λx y=>rfl
  have hre:∀x:Hp,x.length=2->aS [] 0 h0 x=x:=λx hx=>uX 0 h0 x aa
  have ev:∀c,acL.v ((itv i e).length+1) c=.ref acL.s (acL.e+1) 0 ((itv i e).length+1) ((itv i e).length+1) c.length:=λc=>rfl
  have eb:∀c,acL.b ((itv i e).length+1) c=(acL.e+1,.data acL.n c false false):=λc=>rfl
  refine aj ?_;simp(disch:=try exact ae)[gU,l1,g,g2,itH,he',hxe,i8V,li1];refine nm acL (k:=1) aa rfl cR (by rfl) rfl (λt e=>by cases e) aa af ?_;have hoff:=VW e;simp(disch:=try exact ae)[bL,hre,clean,jQ,Qo,Qn,iP,rF,hoff];refine⟨rfl,?_⟩;simpa[ev,eb,itH]using ih
theorem NB{p:LiQ}{a b c:Int}(ha : -128<=a∧a<=127)(hb : -128<=b∧b<=127)(hc : -128<=c∧c<=127)(hd : -128<=d∧d<=127)(hp:p.length<=4):CP Y F.dL [lst di p,.agg [i8V a,i8V b,i8V c,i8V d]] (lst di (itv p.length [a,b,c,d])):=by
 refine uq ?_
 have hl:=MF (p:=p) (e:=[a,b,c,d]) rfl (by
  intro x hx;simp only[Zx,Yp,or_false]at hx;rcases hx with rfl|rfl|rfl|rfl<;>assumption) hp (exK [((.exit 0),λl2 h=>out (lst di (itv p.length [a,b,c,d])) (ge l2 0) h)]) [(1,.vars [i8V a,i8V b,i8V c,i8V d]),nnQ] rfl p.length 0 aa (by
  obtain⟨h',q1,_⟩:=oV acL (L:=(itv p.length [a,b,c,d]).length) (cells:=(itv p.length [a,b,c,d]).map di) (h:=itH [a,b,c,d] (itv p.length [a,b,c,d]).length ((itv p.length [a,b,c,d]).map di)) rfl (by simp[acL]);simp only[exK];exact⟨h',q1⟩)
 simp(disch:=try exact ae)[dL];exact hl
theorem BD(k:Nat):m6 k∈tN:=by simp[m6,tN,Yy]
theorem VJ:∀l∈tN,pcB l=0∧l.Nodup∧0<l.length∧l.length<=4∧∀x∈l,x∈c6P:=by trivial
abbrev Rw:=LiQ
theorem Su(hx:x.length<1000000000)(hy:y.length<1000000000):CP Y F.qq [lst di x,lst di y] (B (decide (x=y))):=by refine LH ?_;simp(disch:=try exact ae)[qq];refine cd (CV hx hy) ?_;simp(disch:=try exact ae)
def qX(c:Int)(m:LLQ):V:=.agg [I c,mat m]
theorem SY{c:Int}{m m':LLQ}(hm:m.length<1000000)(hm':m'.length<1000000)(h2:∀r∈m,r.length<1000000)(h3:∀r∈m',r.length<1000000):
  CP Y F.kv [qX c m,qX c' m'] (B (decide (c=c'∧m=m'))):=by
 refine Dn ?_;simp only[kv,qX];have eq:=YO (g:=F.qq) (λx y hx hy=>Su (x:=x) (y:=y) aa aa) hm hm' h2 h3;by_cases e:c=c'
 .simp(disch:=try exact ae)[e];refine cd eq ?_ (by simp[aK,bV,mat,lst,norm]);exact gA (by simp[e])
 .simp(disch:=try exact ae)[e]
def OI(n:Int):Bool:=decide (n>1000000000)||decide (n < -1000000000)
theorem R2(n:Int):CP Y F.pu [I n] (B (OI n)):=by
 refine GQ ?_;simp[pu];by_cases h:n>1000000000
 .simp[h]
  grind[gA,OI]
 .simp(disch:=try exact ae)[h]
  grind[gA,OI]
def GP(c:Nat):LLQ->Int
 |[]=>0
 |r::q=>if 12<r.length then 4 else if r.length≠c then 5 else if r.any OI=true then 4 else GP c q
def tcB(m:LLQ):Int:=if 12<m.length then 4 else GP (nth [] m 0).length m
theorem HK{m:LLQ}(hm:m.length<1000000)(hr:∀r∈m,r.length<1000000)(K:KL):∀(q a:LLQ),m=a++q->(GP (nth [] m 0).length q=0->K (.exit 0) [] [])->(GP (nth [] m 0).length q≠0->K .ret [I (GP (nth [] m 0).length q)] []) ->
  lp (pO (CX Y) (mat m) (mat m) (I m.length)) [] [] [I a.length] [] K
 | [],a,e,h0,h1=>by
  simp only[Zq]at e;subst e;refine aj ?_;have hlt:¬((m.length:Int)<(m.length:Int)):=aa;simp only[pO];simp[hlt];exact h0 rfl
 | r::q,a,e,h0,h1=>by
  refine aj ?_;have hlt:((a.length:Int)<(m.length:Int)):=by rw[e];simp;omega
  have hl:a.length<m.length:=aa;have hrm:r∈m:=by rw[e];simp
  have i1:ixV [] 1 (mat m) (I a.length)=some (.dptr (m.map row) a.length):=by rw[e];exact vr row a r q _ _
  have i2:ld1 [] (.dptr (m.map row) a.length)=some (lst di r):=by
   rw[k8 row m _ hl];simp only[e,Zm (Z8 _),Zc,Zh];rfl
  have j1:ixV [] 1 (mat m) (.d (.int .i64 0))=some (.dptr (m.map row) 0):=fN row m [] rfl aa;have j2:ld1 [] (.dptr (m.map row) 0)=some (lst di (nth [] m 0)):=eV row [] m [] aa;simp only[pO];simp only[GP]at h0 h1;by_cases g1:12<r.length
  .have g1':((r.length:Int)>12):=aa;rw[if_pos g1]at h0 h1;simp[hlt,i1,i2,g1']
   grind
  .have g1':¬((r.length:Int)>12):=aa;rw[if_neg g1]at h0 h1;by_cases g2:r.length≠(nth [] m 0).length
   .have g2':(r.length:Int)≠((nth [] m 0).length:Int):=aa;rw[if_pos g2]at h0 h1;simp[hlt,i1,i2,g1',j1,j2,g2']
    grind
   .have g2':(r.length:Int)=((nth [] m 0).length:Int):=aa;rw[if_neg g2]at h0 h1;simp(disch:=try exact ae)[hlt,i1,i2,g1',j1,j2,g2'];refine cd (xv r aa λx _=>R2 x) ?_;by_cases g3:r.any OI=true
    .rw[if_pos g3]at h0 h1;simp[g3]
     grind
    .rw[if_neg g3]at h0 h1;have g3':r.any OI=false:=by simpa using g3
     simp(disch:=try exact ae)[g3'];have ih:=HK hm hr K q (a++[r]) (by simp[e]) h0 h1;have e2:((a++[r]).length:Int)=(a.length:Int)+1:=ac
     simp_all
theorem R5{m:LLQ}(hm:m.length<1000000)(hr:∀r∈m,r.length<1000000):CP Y F.pw [mat m] (I (tcB m)):=by
 refine GR ?_;simp only[pw];have l1:aO (mat m)=some (I m.length):=rfl;by_cases g:12<m.length
 .have g':((m.length:Int)>12):=aa;simp[l1,g']
  grind[aW,tcB]
 .have g':¬((m.length:Int)>12):=aa;simp[l1,g'];refine lo (HK hm hr _ m [] rfl (λe=>?_) (λe=>?_))
  .simp
   grind[aW,tcB]
  .simp
   grind[aW,tcB]
theorem XS(n:Int):CP Y F.jt [I n] (B (n !=0)):=by
 refine zh ?_;simp[jt]
 grind[gA]
theorem abN(hr:r.length<4611686018427387904):CP Y F.mJ [lst di r] (I (piv r)):=by refine Dq ?_;simp[mJ];refine cd (CR r hr λn _=>XS n) ?_;exact aW rfl
theorem Dw{g:FuncId}{p:LiQ->Bool}(hs:∀x:LiQ,aK [] ([lst di x]++cs)=some ([lst di x]++cs,[]))(hc:aK [] cs=some (cs,[]))(l:LLQ)(hN:l.length<1000000)(hp:∀x∈l,CP Y g ([lst di x]++cs) (B (p x))):
  CP Y F.aU [mat l,.fn g [] cs] (B (l.any p)):=by
 refine mN ?_;simp[aU];refine cd (v:=I (idx p l)) (nW (JZ (f:=row) (fs:=[]) (cs:=cs) l aa hs hp)) ?_ ?_
 .simp;have:=D8 p l;have e:decide (0<=idx p l)=l.any p:=by rw[Yf];simpa using this
  simp_all
 simp_all[aK,bV]
def upF(p:Nat)(r o:LiQ):Bool:=decide (nth 0 o p<0)||decide (nth 0 o p≥nth 0 r p)
theorem adF{p:Nat}{o:LiQ}(hr:p<r.length)(ho:p<o.length):CP Y F.fe [lst di o,.dptr [.int .i64 p] 0,.dptr [row r] 0] (B (upF p r o)):=by
 refine yp ?_;simp only[fe];have d1:∀h:Hp,ld1 h (.dptr [.int .i64 (p:Int)] 0)=some (I p):=λh=>rfl
 have d2:∀h:Hp,ld1 h (.dptr [row r] 0)=some (lst di r):=λh=>rfl
 have i1:ixV [] 1 (lst di o) (I p)=some (.dptr (o.map di) p):=fN di o [] rfl ho;have i2:ld1 [] (.dptr (o.map di) p)=some (I (nth 0 o p)):=eV di 0 o [] ho;have i3:ixV [] 1 (lst di r) (I p)=some (.dptr (r.map di) p):=fN di r [] rfl hr;have i4:ld1 [] (.dptr (r.map di) p)=some (I (nth 0 r p)):=eV di 0 r [] hr;by_cases h:nth 0 o p<0
 .simp[d1,d2,i1,i2,i3,i4,h]
  grind[gA,upF]
 .simp[d1,d2,i1,i2,i3,i4,h]
  grind[gA,upF]
def J2:Int->LLQ->LLQ->Bool
 |_,_,[]=>true
 |before,done,r::q=>if piv r<=before∨nth 0 r (piv r).toNat<0 then false else if done.any (upF (piv r).toNat r)=true then false else J2 (piv r) (done++[r]) q
theorem FY{m:LLQ}{c:Nat}(hm:m.length<1000000)(hc:c<1000000)(hr:∀r∈m,r.length=c)(K:KL):∀(q a:LLQ)(b:Int),-1<=b->m=a++q->(J2 b a q=true->∀h,K (.exit 0) [] h)->(J2 b a q=false->∀h,K .ret [B false] h) ->
  lp (nj (CX Y) (mat m) (mat m) (I m.length)) [0,1] [nnQ,nnQ] [I b,I a.length] [nnQ,nnQ] K
 | [],a,b,hb,e,h0,h1=>by
  simp only[Zq]at e;subst e;refine aj ?_;have hlt:¬((m.length:Int)<(m.length:Int)):=aa;simp only[nj];simp[hlt];exact h0 rfl _
 | r::q,a,b,hb,e,h0,h1=>by
  refine aj ?_;have hlt:((a.length:Int)<(m.length:Int)):=by rw[e];simp;omega
  have hl:a.length<m.length:=aa;have hrm:r∈m:=by rw[e];simp
  have hrl:r.length=c:=hr r hrm;have i1:∀h:Hp,ixV h 1 (mat m) (I a.length)=some (.dptr (m.map row) a.length):=λh=>by simp_all
  have i2:∀h:Hp,ld1 h (.dptr (m.map row) a.length)=some (lst di r):=λh=>by
   rw[k8 row m _ hl];simp only[e,Zm (Z8 _),Zc,Zh];rfl
  have hp:=ad6 r;simp only[nj];have s1:st [(1,Bk.vars [V.d nPQ]),(0,Bk.none)] 1 (V.ptr 0 1 0 1) (lst di r)=some [(1,.vars [lst di r]),nnQ]:=by simp[st,sto,aw,bL,okV,lst]
  have g1:∀x:Nat×Bk,ld1 [(1,.vars [lst di r]),x] (V.ptr 0 1 0 1)=some (lst di r):=λx=>by rfl
  simp[hlt,i1,i2,s1,g1];refine cd (abN (r:=r) aa) ?_;have s2:∀z:Int,st [(1,.vars [lst di r]),(1,Bk.vars [V.d (D.int .i64 0)])] 1 (V.ptr 1 1 0 1) (I z)=some [(1,.vars [lst di r]),(1,.vars [I z])]:=λz=>by rfl
  have g2:∀(z:Int)(x:Nat×Bk),ld1 [x,(1,.vars [I z])] (V.ptr 1 1 0 1)=some (I z):=λz x=>by rfl
  simp only[J2]at h0 h1;simp[s2,g2];by_cases c1:piv r<=b
  .rw[if_pos (.inl c1)]at h0 h1;simp[c1,s2,g2]
   grind
  .obtain⟨p,hpp⟩:∃p:Nat,piv r=p:=⟨(piv r).toNat,aa⟩;have hpr:p<r.length:=aa;rw[hpp]at h0 h1 c1 ⊢;rw[Int.toNat_natCast]at h0 h1;have i3:∀h:Hp,ixV h 1 (lst di r) (I p)=some (.dptr (r.map di) p):=λh=>fN di r h rfl hpr
   have i4:∀h:Hp,ld1 h (.dptr (r.map di) p)=some (I (nth 0 r p)):=λh=>eV di 0 r h hpr
   by_cases c2:nth 0 r p<0
   .rw[if_pos (.inr c2)]at h0 h1;simp(disch:=try exact ae)[c1,c2,s2,g2,g1,i3,i4]
    grind
   .rw[if_neg (by simp only[not_or];exact⟨c1,c2⟩)]at h0 h1
    have sl:∀h:Hp,slV h 1 (mat m) none (some (I a.length))=some (mat a):=λh=>by
     have:=ac4 row m (h:=h) (i:=a.length) (j:=a.length) aa rfl aa
     grind
    simp(disch:=try exact ae)[c1,c2,s2,g2,g1,i3,i4,sl];have hct:=Dw (g:=F.fe) (cs:=[.dptr [.int .i64 p] 0,.dptr [row r] 0]) (p:=upF p r) (λx=>by rfl) (by rfl) a aa λo ho=>adF hpr (by grind)
    refine tc (ds:=[mat a,.fn F.fe [] [.dptr [.int .i64 p] 0,.dptr [row r] 0]]) (h':=[(1,Bk.data 1 [row r] false true),(1,Bk.data 1 [.int .i64 p] false true)]) ?_ hct ?_
    .rfl
    .rw[show(if cu (B (a.any (upF p r)))=true then[(1,Bk.vars [lst di r]),(1,Bk.vars [I (p:Int)])]else[(1,Bk.data 1 [row r] false true),(1,Bk.data 1 [.int .i64 p] false true)])=[(1,Bk.vars [lst di r]),(1,Bk.vars [I (p:Int)])]from rfl];by_cases c3:a.any (upF p r)=true
     .rw[if_pos c3]at h0 h1;simp[c3]
      grind
     .rw[if_neg c3]at h0 h1;have c3':a.any (upF p r)=false:=by simpa using c3
      have ih:=FY hm hc hr K q (a++[r]) p aa (by simp[e]) h0 h1;have e2:((a++[r]).length:Int)=(a.length:Int)+1:=ac;rw[e2]at ih;simp(disch:=try exact ae)[c3',g2];trivial
theorem K7{c:Nat}:∀{m:LLQ},GP c m=0->∀r∈m,r.length=c∧r.length<=12
 |[],_,r,hr=>by simp at hr
 | x::m,h,r,hr=>by
  simp only[GP]at h;split at h
  .omega
  .split at h
   .omega
   .split at h
    .omega
    .rename_i a1 a2 _;rcases Zx.1 hr with rfl|hr
     .exact⟨aa,aa⟩
     .exact K7 h r hr
theorem Qh(b:Bool)(z:Int)(h:Hp):out (.tup [B b,I z]) (.tup [B b,I z]) h:=⟨h,by rfl⟩
def hfB(m:LLQ):Bool:=decide (tcB m=0)&&J2 (-1) [] m
theorem OF{m:LLQ}(hm:m.length<1000000)(hr:∀r∈m,r.length<1000000):CP Y F.lj [mat m] (.tup [B (hfB m),I (tcB m)]):=by
 refine B6 ?_;simp only[lj];simp;refine cd (R5 hm hr) ?_ (by rfl);by_cases h:tcB m=0
 .have h12:¬12<m.length:=λg=>by grind[tcB]
  have hl:=h;simp only[tcB,if_neg h12]at hl;have hc:=K7 hl
  have hcl:m≠[]->(nth [] m 0).length<1000000:=λe=>by
   grind[Xn,cO]
  have hfo:CP Y F.lh [mat m] (B (J2 (-1) [] m)):=by
   refine B5 ?_;simp only[lh];have l1:aO (mat m)=some (I m.length):=rfl;simp[l1];by_cases e:m=[]
   .subst e;refine lo (FY (c:=0) hm aa ac _ [] [] (-1) aa rfl (λe h=>?_) (λe h=>?_))
    .simp
     simp_all
    .cases e
   .refine lo (FY hm (hcl e) (λr hr=>(hc r hr).1) _ m [] (-1) aa rfl (λe h=>?_) (λe h=>?_))
    .simp
     simp_all
    .simp
     simp_all
  simp[h];refine cd hfo ?_ (by rfl);have e:hfB m=J2 (-1) [] m:=by simp[hfB,h]
  grind[Qh]
 .simp[h];have e:hfB m=false:=by simp[hfB,h]
  grind[Qh]
def G2(c:Int)(m:LLQ):Int:=if lcB c m≠0 then lcB c m else if hfB m=true then 0 else 7
theorem BY{c:Int}{m:LLQ}(hm:m.length<1000000)(hr:∀r∈m,r.length<1000000):CP Y F.jh [qX c m] (I (G2 c m)):=by
 refine Do ?_;simp only[jh,qX];simp;refine cd (Ip hm hr) ?_ (by rfl);by_cases h:lcB c m=0
 .simp[h];refine cd (OF hm hr) ?_ (by rfl);by_cases h2:tcB m=0
  .by_cases h3:hfB m=true
   .simp[h2,h3]
    grind[aW,G2]
   .have h3':hfB m=false:=by simpa using h3
    simp[h2,h3']
    grind[aW,G2]
  .have h3':hfB m=false:=by simp[hfB,h2]
   simp[h2,h3']
   grind[aW,G2]
 .simp[h]
  grind[aW,G2]
def BP(n:Int)(p:Mz):Hp:=[(1,.vars [I 0,nlV]),(1,.vars [I n,(acU 2).v p.length (p.map row)]),(acU 2).b p.length (p.map row)]
theorem WE{m:Mz}{n:Int}(hm:m.length<1000)(hr:∀r∈m,r.length<1000000)(hz:∀r∈m,∀z∈r,-1000000000<=z∧z<=1000000000)(h0:Hp)(K:KL):∀(q p:Mz),m=p++q->K (.exit 0) [] (BP n m) ->
  lp (iW (CX Y) (.ptr 0 1 0 2) (.ptr 1 1 0 2) (vi m) (I m.length)) [] h0 [I p.length] (BP n p) K
 | [],p,e,hK=>by
  simp only[Zq]at e;subst e;refine aj ?_;have hlt:¬((m.length:Int)<(m.length:Int)):=aa;simp only[iW];simp[hlt];exact hK
 | r::q,p,e,hK=>by
  refine aj ?_;have hlt:((p.length:Int)<(m.length:Int)):=by rw[e];simp;omega
  have hrm:r∈m:=by rw[e];simp
  have hpl:p.length<m.length:=aa;obtain⟨H,hH⟩:=nmQ (BP n p);have i1:ixV H 1 (vi m) (I p.length)=some (.dptr (m.map tP) p.length):=by rw[e];exact QP p r q H
  have i2:ld1 H (.dptr (m.map tP) p.length)=some (lst sI r):=by rw[e];exact QL p r q H
  rw[<-hH];simp only[iW];simp[hlt,i1,i2];refine cd (SU (hz r hrm) (hr r hrm)) ?_;have f1:ld1 H (.ptr 1 1 1 2)=some ((acU 2).v p.length (p.map row)):=by rw[hH];simp[ld1,BP,aw]
  have hli:eC 1 [nPQ] [(0,lst di r)] H=some ([row r],H):=by simp[eC,iH,kJ,toD,norm,lst,row]
  simp[f1,hli];refine nm (acU 2) (by_:=24) (k:=1) (cs:=[row r]) aa (by rw[hH];rfl) (by simp[acU]) (by rfl) rfl (by grind) aa (by simp[acU]) ?_;have hs:H.set (acU 2).s ((acU 2).b (p.length+1) (p.map row++[row r]))=[(1,.vars [I 0,nlV]),(1,.vars [I n,(acU 2).v p.length (p.map row)]),(acU 2).b (p.length+1) (p.map row++[row r])]:=by rw[hH];rfl
  have hst:st [(1,.vars [I 0,nlV]),(1,.vars [I n,(acU 2).v p.length (p.map row)]),(acU 2).b (p.length+1) (p.map row++[row r])] 1 (.ptr 1 1 1 2) ((acU 2).v (p.length+1) (p.map row++[row r]))=some (BP n (p++[r])):=by
   simp[st,sto,aw,bL,okV,BP,Acc.v,Acc.b]
  have ih:=WE hm hr hz h0 K q (p++[r]) (by simp[e]) hK;have e2:((p++[r]).length:Int)=(p.length:Int)+1:=ac;rw[e2]at ih;rw[hs];simp only[Acc.v,Acc.b]at hst ⊢;simp(disch:=try exact ae)[hst]
  simp_all[dC,BP]
theorem y9{n:Int}(hm:m.length<1000)(hr:∀r∈m,r.length<1000000)(hz:∀r∈m,∀z∈r,-1000000000<=z∧z<=1000000000):CP Y F.dF [vi m,I n] (.tup [qX n m,I 0]):=by
 refine vZ ?_;simp only[dF];have l1:aO (vi m)=some (I m.length):=rfl;simp[l1];refine lo (WE hm hr hz _ _ m [] rfl ?_);have g1:ldA (BP n m) 2 (.ptr 1 1 0 2)=some (.agg [I n,(acU 2).v m.length (m.map row)]):=by simp[ldA,BP,aw]
 have okv:okV ((acU 2).v m.length (m.map row))=true:=by cases m<;>rfl
 have s1:st (BP n m) 2 (.ptr 0 1 0 2) (.agg [I n,(acU 2).v m.length (m.map row)])=some [(1,.vars [I n,(acU 2).v m.length (m.map row)]),(1,.vars [I n,(acU 2).v m.length (m.map row)]),(acU 2).b m.length (m.map row)]:=by
  simp[st,sto,BP,aw,bL,okv]
 have g2:ldA [(1,.vars [I n,(acU 2).v m.length (m.map row)]),(1,.vars [I n,(acU 2).v m.length (m.map row)]),(acU 2).b m.length (m.map row)] 2 (.ptr 0 1 0 2)=some (.agg [I n,(acU 2).v m.length (m.map row)]):=by simp[ldA,aw]
 show(bnd (ldA (BP n m) 2 (.ptr 1 1 0 2)) λv7=>stD (BP n m) 2 (.ptr 0 1 0 2) v7 λx h=>bnd (ldA h 2 (.ptr 0 1 0 2)) λv9=>out (.tup [qX n m,I 0]) (.tup [v9,.d (.int .i64 0)]) h)
 simp only[g1,bnd,stD,s1,g2];obtain⟨h',e1,_⟩:=oV (acU 2) (L:=m.length) (cells:=m.map row) (h:=[(1,.vars [I n,(acU 2).v m.length (m.map row)]),(1,.vars [I n,(acU 2).v m.length (m.map row)]),(acU 2).b m.length (m.map row)]) rfl (by simp[acU]);refine⟨h',?_⟩
 simp_all[bV,aK,qX,lst]
structure tg(n:Nat)(m:Mz):Prop where
 n0:0<n
 n12:n<=12
 ml:m.length<=12
 rl:∀r∈m,r.length=n
 sm:∀r∈m,∀z∈r,-1000000000<=z∧z<=1000000000
theorem QN{z:Mz}(hB:Bd<=100000)(hl:G2 n m=0)(ho:tg n m)(hk:vq Bd f n m=some z)(hz:tg n z):CP Y F.eX [qX n m] (.tup [qX n z,I 0]):=by
 refine wh ?_;simp only[eX,qX];simp;have hrl:∀r∈m,r.length<1000000:=λr hr=>by rw[ho.rl r hr];have:=ho.n12;omega
 have hml:=ho.ml;have hn:=ho.n12;refine cd (args:=[qX n m]) (BY aa hrl) ?_ (by rfl);have c1:=FE (m:=m) ho.ml hrl (λr hr z hz=>by have:=ho.sm r hr z hz;omega);have c2:=BZ (m:=m) (n:=n) ho.n0 aa ho.rl aa hB hk;have c3:=y9 (m:=z) (n:=n) (by grind[tg.ml]) (λr hr=>by grind[tg.rl]) hz.sm;simp[hl];refine cd c1 ?_ (by rfl);simp
 refine cd c2 ?_ (by rfl);simp;refine cd c3 ?_ (by rfl);have ok1:okV (mat z)=true:=rfl;simp[qX,ok1];exact⟨_,by rfl⟩
theorem QB{y z:Mz}(hB:Bd<=100000)(hl:G2 n m=0)(ho:tg n m)(hk:vq Bd f n m=some y)(hy:∀r∈y,r.length=n)(hyl:y.length<1000)(hk2:vq Bd f n y=some z)(hz:tg n z):CP Y F.gM [qX n m] (.tup [qX n z,I 0]):=by
 refine za ?_;simp only[gM,qX];simp;have hrl:∀r∈m,r.length<1000000:=λr hr=>by rw[ho.rl r hr];have:=ho.n12;omega
 have hml:=ho.ml;have hn:=ho.n12;refine cd (args:=[qX n m]) (BY aa hrl) ?_ (by rfl);have c1:=FE (m:=m) ho.ml hrl (λr hr z hz=>by have:=ho.sm r hr z hz;omega);have c2:=BZ (m:=m) (n:=n) ho.n0 aa ho.rl aa hB hk;have c4:=BZ (m:=y) (n:=n) ho.n0 aa hy hyl hB hk2
 have c3:=y9 (m:=z) (n:=n) (by grind[tg.ml]) (λr hr=>by grind[tg.rl]) hz.sm;simp[hl];refine cd c1 ?_ (by rfl);simp;refine cd c2 ?_ (by rfl);simp;refine cd c4 ?_ (by rfl);simp;refine cd c3 ?_ (by rfl);have ok1:okV (mat z)=true:=rfl;simp[qX,ok1];exact⟨_,by rfl⟩
def tpV(p:LiQ)(c w:Mz):V:=.agg [lst di p,mat c,mat w]
structure rY(p:LiQ)(c w:Mz):Prop where
 pr:pcB p=0
 lc:tg p.length c
 lw:tg p.length w
 ch:G2 p.length c=0
 k1:∃B f,B<=100000∧vq B f p.length c=some w∧vq B f p.length w=some c
theorem RR(x y:LiQ)(hx:x.length<1000000)(hy:y.length<1000000):CP Y F.eQ [.d (row x),.d (row y)] (B (decide (x=y))):=by refine vV ?_;simp only[eQ];simp;refine cd (args:=[lst di x,lst di y]) (CV aa aa) ?_ (by rfl);simp
theorem Uc{m':Mz}(hm:m.length<1000000)(hm':m'.length<1000000)(h2:∀r∈m,r.length<1000000)(h3:∀r∈m',r.length<1000000):CP Y F.jm [mat m,mat m'] (B (decide (m=m'))):=by refine yG ?_;simp only[jm];simp;refine cd (YO (g:=F.eQ) RR hm hm' h2 h3) ?_ (by rfl);simp
theorem tg.rl6(h:tg n m):∀r∈m,r.length<1000000:=λr hr=>by rw[h.rl r hr];have:=h.n12;omega
theorem wN{p:LiQ}{c w w':Mz}(h:rY p c w)(h1:w'.length<1000000)(h2:∀r∈w',r.length<1000000):CP Y F.cT [tpV p c w'] (I (if w=w' then 0 else 14)):=by
 refine yb ?_;simp only[cT,tpV];have hn:=h.lc.n12;have hcl:=h.lc.ml;have hwl:=h.lw.ml;have a1:=mG (p:=p) aa;rw[h.pr]at a1;have a2:=BY (c:=p.length) (m:=c) aa h.lc.rl6;rw[h.ch]at a2;obtain⟨Bd,f,hB,k1,k2⟩:=h.k1;have a3:=QB hB h.ch h.lc k1 h.lw.rl aa k2 h.lc;have a4:=QN hB h.ch h.lc k1 h.lw
 have a5:CP Y F.kv [qX p.length c,qX p.length c] (B true):=by
  have:=SY (c:=p.length) (c':=p.length) (m:=c) (m':=c) aa aa h.lc.rl6 h.lc.rl6;simpa using this
 have a6:=Uc (m:=w) (m':=w') aa h1 h.lw.rl6 h2;have l1:aO (lst di p)=some (I p.length):=rfl;simp;refine cd a1 ?_;have ok1:∀m:Mz,okV (lst row m)=true:=λ_=>rfl
 simp only[qX,mat]at a2 a3 a4 a5 a6;simp[l1,ok1];refine cd a2 ?_ (by rfl);simp;refine cd a3 ?_ (by rfl);simp[ok1];refine cd a5 ?_ (by rfl);simp;refine cd a4 ?_ (by rfl);simp[ok1];refine cd (args:=[lst row w,lst row w']) a6 ?_ (by rfl);by_cases e:w=w'<;>simp[e]
theorem yF{p:LiQ}{c w:Mz}(h:rY p c w):CP Y F.cT [tpV p c w] (I 0):=by simpa using wN h (by have:=h.lw.ml;omega) h.lw.rl6
def tbB(n:Nat):Mz->Int
 |[]=>0
 |r::q=>if rcB r≠0 then rcB r else if r.length≠n then 5 else tbB n q
variable{p:LiQ}{c w:Mz}
theorem HN{m:Mz}(hm:m.length<1000000)(hr:∀r∈m,r.length<1000000)(e:Nat)(h0:Hp)(K:KL):∀(q a:Mz),m=a++q->(tbB p.length q=0->K (.exit 0) [] [(e,.vars [lst di p,mat c,mat w])])->(tbB p.length q≠0->K .ret [I (tbB p.length q)] [(e,.vars [lst di p,mat c,mat w])]) ->
  lp (jV (CX Y) (.ptr 0 e 0 3) (mat m) (I m.length)) [] h0 [I a.length] [(e,.vars [lst di p,mat c,mat w])] K
 | [],a,e1,h1,h2=>by
  simp only[Zq]at e1;subst e1;refine aj ?_;have hlt:¬((m.length:Int)<(m.length:Int)):=aa;simp only[jV];simp[hlt];exact h1 rfl
 | r::q,a,e1,h1,h2=>by
  refine aj ?_;have hlt:((a.length:Int)<(m.length:Int)):=by rw[e1];simp;omega
  have hl:a.length<m.length:=aa;have hrm:r∈m:=by rw[e1];simp
  have i1:∀h:Hp,ixV h 1 (mat m) (I a.length)=some (.dptr (m.map row) a.length):=λh=>by simp_all
  have i2:∀h:Hp,ld1 h (.dptr (m.map row) a.length)=some (lst di r):=λh=>by
   rw[k8 row m _ hl];simp only[e1,Zm (Z8 _),Zc,Zh];rfl
  have l1:aO (lst di r)=some (I r.length):=rfl;have l2:aO (lst di p)=some (I p.length):=rfl;have g1:ld1 [(e,.vars [lst di p,mat c,mat w])] (.ptr 0 e 0 3)=some (lst di p):=by simp[ld1,aw]
  simp only[jV];simp[hlt,i1,i2];refine cd (P3 (by grind)) ?_;simp only[tbB]at h1 h2;by_cases c1:rcB r=0
  .rw[if_neg (by simp[c1])]at h1 h2;by_cases c2:r.length=p.length
   .rw[if_neg (by simp[c2])]at h1 h2;have c2':(r.length:Int)=(p.length:Int):=aa;simp(disch:=try exact ae)[c1,l1,l2,g1,c2'];rw[dC];have ih:=HN hm hr e h0 K q (a++[r]) (by grind) h1 h2;have e2:((a++[r]).length:Int)=(a.length:Int)+1:=ac
    simp_all
   .rw[if_pos c2]at h1 h2;have c2':¬(r.length:Int)=(p.length:Int):=aa;simp[c1,l1,l2,g1,c2']
    grind
  .rw[if_pos c1]at h1 h2;simp[c1]
   grind
theorem R6(h:rY p c w)(hm:m.length<1000000)(hr:∀r∈m,r.length<1000000):CP Y F.ij [tpV p c w,mat m] (I (tbB p.length m)):=by
 refine ya ?_;simp only[ij,tpV];simp;refine cd (args:=[tpV p c w]) (yF h) ?_ (by rfl);have l1:aO (mat m)=some (I m.length):=rfl;simp[l1];refine lo (HN hm hr 1 _ _ m [] rfl (λe=>?_) (λe=>?_))
 .simp
  simp_all
 .simp
def xq:LiQ->LiQ->Int
 |x::xs,y::ys=>x*y+xq xs ys
 |_,_=>0
def bd9(l:LiQ):Prop:=∀x∈l,-1000000000<=x∧x<=1000000000
theorem HG{x v:LiQ}(hl:v.length=x.length)(hn:x.length<=64)(hx:bd9 x)(hv:bd9 v)(h0 h:Hp)(K:KL):∀(q qv a av:LiQ)(s:Int),x=a++q->v=av++qv->av.length=a.length->s.natAbs<=1000000000000000000*a.length ->
  K (.exit 2) [S (itoa (s+xq q qv))] h ->
  lp (jH (CX Y) (lst di v) (lst di x) (I x.length)) [] h0 [S (itoa s),I a.length] h K
 | [],qv,a,av,s,e1,e2,e3,hs,hK=>by
  simp only[Zq]at e1;subst e1;refine aj ?_;have hlt:¬((x.length:Int)<(x.length:Int)):=aa;simp only[jH];simp[hlt]
  grind[xq]
 | b::q,[],a,av,s,e1,e2,e3,hs,hK=>by
  grind
 | b::q,d::qv,a,av,s,e1,e2,e3,hs,hK=>by
  refine aj ?_;have hlt:((a.length:Int)<(x.length:Int)):=by rw[e1];simp;omega
  have hax:a.length<x.length:=aa;have hal:a.length<64:=Z3 hax hn;have i1:ixV h 1 (lst di x) (I a.length)=some (.dptr (x.map di) a.length):=by rw[e1];exact vr di a b q _ _
  have i2:ld1 h (.dptr (x.map di) a.length)=some (I b):=by
   rw[k8 di x _ aa];simp only[e1,Zm (Z8 _),Zc,Zh];rfl
  have i3:ixV h 1 (lst di v) (I a.length)=some (.dptr (v.map di) a.length):=by rw[e2,<-e3];exact vr di av d qv _ _
  have i4:ld1 h (.dptr (v.map di) a.length)=some (I d):=by
   rw[k8 di v _ aa];simp only[e2,<-e3,Zm (Z8 _),Zc,Zh];rfl
  have hb:=hx b (by grind);have hd:=hv d (by grind);have n18:∀z:Int,z.natAbs<10^30->ndg z.natAbs<400000:=λz hz=>Y6 (gK hz af) af
  have h3:(b*d).natAbs<=1000000000*1000000000:=by
   rw[Y7];exact Zp aa aa
  have hp:(10:Nat)^30=1000000000000000000000000000000:=af;simp only[jH];simp[hlt,i1,i2];refine cd (kY (z:=b) aa aa) ?_;simp[i3,i4];refine cd (kY (z:=d) aa aa) ?_;simp;refine cd (pL (z:=b) (w:=d) (n18 _ aa) (n18 _ aa)) ?_;simp
  refine cd (zz (z:=s) (w:=b*d) (by have:=n18 s aa;omega) (by have:=n18 (b*d) aa;omega)) ?_;have h4:=Int.natAbs_add_le s (b*d)
  have ih:=HG hl hn hx hv h0 h K q qv (a++[b]) (av++[d]) (s+b*d) (by grind) (by grind) (by grind) (by grind) (by
   have:s+b*d+xq q qv=s+xq (b::q) (d::qv):=by simp only[xq];omega
   grind)
  have e4:((a++[b]).length:Int)=(a.length:Int)+1:=ac;rw[e4]at ih;simp(disch:=try exact ae)
  grind[dC,lo]
def cG(w:Mz)(x:LiQ):LiQ:=w.map λv=>xq x v
theorem HI{x:LiQ}{w:Mz}(hw:w.length<1000)(hl:∀v∈w,v.length=x.length)(hn:x.length<=64)(hx:bd9 x)(hv:∀v∈w,bd9 v)(b0:Nat×Bk)(h0:Hp)(K:KL):∀(q a:Mz),w=a++q ->
  K (.exit 0) [(acU 1).v w.length ((cG w x).map sI)] [b0,(acU 1).b w.length ((cG w x).map sI)] ->
  lp (jI (CX Y) (lst di x) (mat w) (I w.length)) [] h0 [(acU 1).v a.length ((cG a x).map sI),I a.length] [b0,(acU 1).b a.length ((cG a x).map sI)] K
 | [],a,e,hK=>by
  simp only[Zq]at e;subst e;refine aj ?_;have hlt:¬((w.length:Int)<(w.length:Int)):=aa;simp only[jI];simp[hlt];exact hK
 | v::q,a,e,hK=>by
  refine aj ?_;have hlt:((a.length:Int)<(w.length:Int)):=by rw[e];simp;omega
  have hal:a.length<w.length:=aa;have hvm:v∈w:=by rw[e];simp
  have i1:∀h:Hp,ixV h 1 (mat w) (I a.length)=some (.dptr (w.map row) a.length):=λh=>by simp_all
  have i2:∀h:Hp,ld1 h (.dptr (w.map row) a.length)=some (lst di v):=λh=>by
   rw[k8 row w _ hal];simp only[e,Zm (Z8 _),Zc,Zh];rfl
  have l1:aO (lst di x)=some (I x.length):=rfl;obtain⟨H,hH⟩:∃H:Hp,H=[b0,(acU 1).b a.length ((cG a x).map sI)]:=⟨_,rfl⟩;rw[<-hH];simp only[jI];simp[hlt,i1,i2,l1]
  have e48:V.d (D.str [48])=S (itoa 0):=by
   have:itoa 0=[48]:=aJ;rw[this]
  rw[e48];refine lo (HG (hl v hvm) hn hx (hv v hvm) _ H _ x v [] [] 0 rfl rfl rfl ac ?_);have hli:eC 1 [.str []] [(0,S (itoa (xq x v)))] H=some ([sI (xq x v)],H):=by simp[eC,iH,kJ,toD,norm,sI]
  simp[hli];have ez:cG (a++[v]) x=cG a x++[xq x v]:=by simp[cG]
  refine nm (acU 1) (by_:=16) (k:=1) (cs:=[sI (xq x v)]) aa (by rw[hH];rfl) (by simp[acU,cG]) (by rfl) rfl (by grind) aa (by simp[acU]) ?_;have hs:H.set (acU 1).s ((acU 1).b (a.length+1) ((cG a x).map sI++[sI (xq x v)]))=[b0,(acU 1).b (a.length+1) ((cG a x).map sI++[sI (xq x v)])]:=by rw[hH];rfl
  rw[hs];have ih:=HI hw hl hn hx hv b0 h0 K q (a++[v]) (by simp[e]) hK;have e4:((a++[v]).length:Int)=(a.length:Int)+1:=ac;rw[e4,ez,X5,List.length_append]at ih;simp(disch:=try exact ae)
  simp_all[dC]
theorem R4(h:rY p c w)(hl:x.length=p.length)(hx:bd9 x):CP Y F.gF [tpV p c w,lst di x] (lst sI (cG w x)):=by
 refine wO ?_;simp only[gF,tpV];have l1:aO (mat w)=some (I w.length):=rfl;have hn:=h.lc.n12;have hwl:=h.lw.ml;simp[l1];refine lo (HI aa (λv hv=>by rw[h.lw.rl v hv,hl]) aa hx (λv hv=>h.lw.sm v hv) _ _ _ w [] rfl ?_);simp
 obtain⟨h',e1,_⟩:=oV (acU 1) (L:=w.length) (cells:=(cG w x).map sI) (h:=[(1,.vars [lst di p,mat c,mat w]),(acU 1).b w.length ((cG w x).map sI)]) rfl (by simp[acU,cG]);refine⟨h',?_⟩
 grind[lst,cG]
theorem IS{l:LiQ}(hn:l.length<1000)(hz:bd9 l)(b0:Nat×Bk)(h0:Hp)(K:KL):∀(q a:LiQ),l=a++q->K (.exit 0) [(acU 1).v l.length (l.map di)] [b0,(acU 1).b l.length (l.map di)] ->
  lp (jJ (CX Y) (lst sI l) (I l.length)) [] h0 [(acU 1).v a.length (a.map di),I a.length] [b0,(acU 1).b a.length (a.map di)] K
 | [],a,e,hK=>by
  simp only[Zq]at e;subst e;refine aj ?_;have hlt:¬((l.length:Int)<(l.length:Int)):=aa;simp only[jJ];simp[hlt];exact hK
 | z::q,a,e,hK=>by
  refine aj ?_;have hlt:((a.length:Int)<(l.length:Int)):=by rw[e];simp;omega
  have hal:a.length<l.length:=aa;have hzb:=hz z (by grind);have i1:∀h:Hp,ixV h 1 (lst sI l) (I a.length)=some (.dptr (l.map sI) a.length):=λh=>by simp_all
  have i2:∀h:Hp,ld1 h (.dptr (l.map sI) a.length)=some (S (itoa z)):=λh=>by
   grind[k8,sI]
  obtain⟨H,hH⟩:∃H:Hp,H=[b0,(acU 1).b a.length (a.map di)]:=⟨_,rfl⟩;rw[<-hH];have g1:¬(z>1000000000):=aa;have g2:¬(z < -1000000000):=aa;have hli:eC 1 [.int .i64 0] [(0,I z)] H=some ([di z],H):=by simp[eC,iH,kJ,toD,norm];rfl
  simp only[jJ];simp[hlt,i1,i2];refine cd (Bt (z:=z) aa) ?_;simp[g1,g2,hli];refine nm (acU 1) (by_:=8) (k:=1) (cs:=[di z]) aa (by rw[hH];rfl) (by simp[acU]) (by rfl) rfl (by grind) aa (by simp[acU]) ?_;have hs:H.set (acU 1).s ((acU 1).b (a.length+1) (a.map di++[di z]))=[b0,(acU 1).b (a.length+1) (a.map di++[di z])]:=by rw[hH];rfl
  rw[hs];have ih:=IS hn hz b0 h0 K q (a++[z]) (by simp[e]) hK;have e4:((a++[z]).length:Int)=(a.length:Int)+1:=ac;rw[e4,X5,List.length_append]at ih;simp(disch:=try exact ae)
  simp_all[dC]
theorem IR(h:rY p c w)(hl:x.length=p.length)(hx:bd9 x)(hr:rcB x=0)(hz:bd9 (cG w x)):CP Y F.fx [tpV p c w,lst di x] (.tup [lst di (cG w x),I 0]):=by
 refine wP ?_;simp only[fx,tpV];have hn:=h.lc.n12;have hwl:=h.lw.ml;have hli:eC 1 [nPQ] [(0,lst di x)] [(1,Bk.vars [lst di p,mat c,mat w]),(0,Bk.none)]=some ([row x],[(1,Bk.vars [lst di p,mat c,mat w]),(0,Bk.none)]):=by simp[eC,iH,kJ,toD,norm,lst,row]
 have tb:tbB p.length [x]=0:=by simp[tbB,hr,hl]
 have b1:=R6 h (m:=[x]) ac (by grind);rw[tb]at b1;simp[hli];refine cd (args:=[tpV p c w,mat [x]]) b1 ?_ (by rfl);simp;refine cd (args:=[tpV p c w,lst di x]) (R4 h hl hx) ?_ (by rfl);have l1:aO (lst sI (cG w x))=some (I (cG w x).length):=rfl;simp[l1];refine lo (IS (by grind[cG]) hz _ _ _ (cG w x) [] rfl ?_);simp
 obtain⟨h',e1,_⟩:=oV (acU 1) (L:=(cG w x).length) (cells:=(cG w x).map di) (h:=[(1,.vars [lst di p,mat c,mat w]),(acU 1).b (cG w x).length ((cG w x).map di)]) rfl (by simp[acU]);refine⟨h',?_⟩;simp only[bV,aK,e1,norm];rfl
abbrev Lk:=Int×Int
theorem adX(n:Nat):iH n [D.int IntKind.i64 0]=(List.replicate n 0).map di:=by
 induction n with
 |zero=>rfl
 |succ n ih=>rw[List.replicate_succ,Zs,<-ih];rfl
theorem af6{s e L n:Nat}{b:Bk}{h:Hp}{k:kkQ}{u:PU k}(hs:h[s]?=some (e,b))(hL:L<=n)(hn:n<1000000000)(hk:k (.ref s (e+1) 0 L n n) (h.set s (e+1,.data 1 ((List.replicate n 0).map di) true false))):rh (mkS s 8 [.int .i64 0] h (I L) (I n)) k u:=by unfold rh mkS;simp only;rw[if_pos ⟨aa,aa,ac,aa,aa⟩];simp only[new,hs,Int.toNat_natCast,adX,List.length_map,Zd];exact hk
theorem US(hu:(h.all λx=>ax h.length x.2)=true)(hn:n<=64):CI Y F.sU [I n] h (.tup [.new 1 ((List.replicate n 0).map di) true n n,I 0]) h:=by
 refine N7 ?_;have g1:¬(n:Int)<0:=aa;have g2:¬(64:Int)<(n:Int):=aa;simp(disch:=try exact ae)[sU,g1,g2];refine⟨ac,?_,.inr (.inr (.inr (.inr (.inl ⟨h.length,1,n,n,1,(List.replicate n 0).map di,true,.int .i64 0,ac,Z8 _,?_,ac⟩))))⟩
 .simp only[Zb,hu,Yz];try rfl
 .simp[aw,di]
def mX(n:Nat):LiQ:=1::List.replicate (n-1) 0
theorem UX(h0:0<n)(hn:n<=64):CP Y F.uu [I n,I 0] (.tup [lst di (mX n),I 0]):=by
 refine N9 ?_;have zi:=US (h:=[nnQ]) rfl hn;have g:¬(n:Int)<=0:=aa;obtain⟨m,hm⟩:∃m,n=m+1:=⟨n-1,aa⟩;have eu:(List.replicate n 0).map di=di 0::(List.replicate m 0).map di:=by rw[hm,List.replicate_succ];rfl
 have hl:((List.replicate n 0).map di).length=n:=ac;simp(disch:=try exact ae)[uu];refine oN (GB (e:=0) (b:=.none) zi rfl ?_);rw[hl,eu];simp(disch:=try exact ae)[g];refine cZ (h2:=[(1,.data 1 ((mX n).map di) true true)]) ?_ rfl
 .simp[bV,toD,aw,bL,lst,mX,hm,di]
structure Ad where
 p:LiQ
 ch:List LLQ
 lk:List (List Lk)
 cd:List LLQ
 w:Q
variable{a:Ad}
variable{b:Nat}{c:UInt8}{kb:Nat}
theorem FB(z:Int):eU z 1=(z,1):=by simp[eU,mp]
theorem qu{n:Int}(hd:d≠0)(h1 : -9223372036854775808<n)(h2:n<9223372036854775808)(h3 : -9223372036854775808<d)(h4:d<9223372036854775808):CP Y F.bH [I n,I d] (.agg (qT (eU n d))):=by refine yc ?_;have fo:=uD hd h1 h2 h3 h4;simp only[qT]at fo;simp only[bH];simp;refine cd fo ?_;simp;exact mh rfl rfl
theorem A7{s s' e es by_ n k L:Nat}{cells cs:LdQ}{b0:Bk}{h:Hp}{y:V}{q:kkQ}{u:PU q}(hk:0<k)(hs':h[s']?=some (e,.data n cells true false))(hs:h[s]?=some (es,b0))(hc:cells.length=L*n)
  (hcs:cs.length=k*n) (hy:cellsOf h y=some (k,cs)) (hyn:∀t,y≠.d (.str t)) (hb:(L+k)*by_<=140737488355328)
  (hq:q (.ref s (es+1) 0 (L+k) (L+k) (cells++cs).length) (h.set s (es+1,.data n (cells++cs) false false))):rh (apV false s n by_ (.ref s' e 0 L L cells.length) y h) q u:=by
 have e1:apV false s n by_ (.ref s' e 0 L L cells.length) y h q=apC false s n by_ (.ref s' e 0 L L cells.length) k cs h q:=by
  unfold apV;split
  .trivial
  .grind
 show apV false s n by_ (.ref s' e 0 L L cells.length) y h q
 rw[e1];unfold apC;rw[if_neg aa];have g:aw h s' e=.data n cells true false:=by simp[aw,hs']
 simp only[g,true_and,Zj];rw[if_pos ⟨Z8 _,aa,hcs⟩,if_neg aa,if_pos hb];simp only[if_true,new,hs,Yu];rw[Z2 aa]
 grind
def gtB(w:Mz):Int:=if w.length≠2 then 5 else if nth 0 (nth [] w 0) 0=0 then 26 else 0
variable{p:LiQ}{c w:Mz}
theorem QX(h:rY p c w):CP Y F.ji [tpV p c w] (I (gtB w)):=by
 refine vQ ?_;simp only[ji,tpV];simp;refine cd (args:=[tpV p c w]) (yF h) ?_ (by rfl);have l1:aO (mat w)=some (I w.length):=rfl;by_cases h2:w.length=2
 .have i1:∀h:Hp,ixV h 1 (mat w) (.d (.int .i64 0))=some (.dptr (w.map row) 0):=λh=>fN row w h rfl aa
  have i2:∀h:Hp,ld1 h (.dptr (w.map row) 0)=some (lst di (nth [] w 0)):=λh=>eV row [] w h aa
  have hr:(nth [] w 0).length=p.length:=h.lw.rl _ (by rw[cO _ _ _ aa];simp);have hp:=h.lw.n0;have i3:∀h:Hp,ixV h 1 (lst di (nth [] w 0)) (.d (.int .i64 0))=some (.dptr ((nth [] w 0).map di) 0):=λh=>fN di _ h rfl aa
  have i4:∀h:Hp,ld1 h (.dptr ((nth [] w 0).map di) 0)=some (I (nth 0 (nth [] w 0) 0)):=λh=>eV di 0 _ h aa
  have h2':(w.length:Int)=2:=aa;by_cases h0:nth 0 (nth [] w 0) 0=0
  .simp[l1,h2',i1,i2,i3,i4,h0]
   grind[aW,gtB]
  .simp[l1,h2',i1,i2,i3,i4,h0]
   grind[aW,gtB]
 .have h2':¬(w.length:Int)=2:=aa;simp[l1,h2']
  grind[aW,gtB]
theorem MO(h0:0<r.length)(hn:r.length<1000000):CP Y F.iK [lst di r] (lst di r):=by
 refine AA ?_;simp only[iK];have hli:eC 0 [.int .i64 0] [] [(0,Bk.none),(0,Bk.none)]=some ([],[(0,Bk.none),(0,Bk.none)]):=rfl;simp[hli];refine A7 (s:=1) (s':=0) (e:=1) (es:=0) (by_:=8) (n:=1) (L:=0) (k:=r.length) (cells:=[]) (cs:=r.map di) h0 rfl rfl rfl ac rfl (by intro t ht;cases ht) aa ?_
 have sn:=x8 ⟨1,0,1,.none⟩ (L:=r.length) (cells:=r.map di) (h:=[(1,Bk.data 1 [] true false),(Acc.b ⟨1,0,1,.none⟩ r.length (r.map di))]) rfl ac;obtain⟨m,hm⟩:∃m,r.length=m+1:=⟨r.length-1,aa⟩
 simp_all[lst]
theorem OK(h:rY p c w)(hg:gtB w=0):CP Y F.iZ [tpV p c w] (.tup [.agg [I (nth 0 (nth [] w 0) 0),lst di (nth [] w 0),lst di (nth [] w 1)],I 0]):=by
 refine xn ?_;simp only[iZ,tpV];simp;have a1:=QX h;rw[hg]at a1
 have h2:w.length=2:=by
  apply Classical.byContradiction;intro e;simp[gtB,e]at hg
 refine cd (args:=[tpV p c w]) a1 ?_ (by rfl);have i1:∀h:Hp,ixV h 1 (mat w) (.d (.int .i64 0))=some (.dptr (w.map row) 0):=λh=>fN row w h rfl aa
 have i2:∀h:Hp,ld1 h (.dptr (w.map row) 0)=some (lst di (nth [] w 0)):=λh=>eV row [] w h aa
 have j1:∀h:Hp,ixV h 1 (mat w) (.d (.int .i64 1))=some (.dptr (w.map row) 1):=λh=>fN row w h rfl aa
 have j2:∀h:Hp,ld1 h (.dptr (w.map row) 1)=some (lst di (nth [] w 1)):=λh=>eV row [] w h aa
 have hr:(nth [] w 0).length=p.length:=h.lw.rl _ (by rw[cO _ _ _ aa];simp);have hr1:(nth [] w 1).length=p.length:=h.lw.rl _ (by rw[cO _ _ _ aa];simp);have hp:=h.lw.n0;have hn:=h.lc.n12;have i3:∀h:Hp,ixV h 1 (lst di (nth [] w 0)) (.d (.int .i64 0))=some (.dptr ((nth [] w 0).map di) 0):=λh=>fN di _ h rfl aa
 have i4:∀h:Hp,ld1 h (.dptr ((nth [] w 0).map di) 0)=some (I (nth 0 (nth [] w 0) 0)):=λh=>eV di 0 _ h aa
 simp[i1,i2,i3,i4];refine cd (MO (r:=nth [] w 0) aa aa) ?_;simp[j1,j2];refine cd (MO (r:=nth [] w 1) aa aa) ?_;have ok1:∀m:LiQ,okV (lst di m)=true:=λ_=>rfl
 simp[ok1];exact⟨_,rfl⟩
theorem acM{s s' e by_ n k L:Nat}{cells cs:LdQ}{h:Hp}{y:V}{q:kkQ}{u:PU q}(hk:0<k)(hn:0<n)(hs':h[s']?=some (e,.data n cells false false))(hc:cells.length=L*n)
  (hcs:cs.length=k*n) (hy:cellsOf h y=some (k,cs)) (hyn:∀t,y≠.d (.str t)) (hb:(L+k)*by_<=140737488355328)
  (hq:q (.ref s' e 0 (L+k) (L+k) (cells++cs).length) (h.set s' (e,.data n (cells++cs) false false))):rh (apV false s n by_ (.ref s' e 0 L L cells.length) y h) q u:=by
 have e1:apV false s n by_ (.ref s' e 0 L L cells.length) y h q=apC false s n by_ (.ref s' e 0 L L cells.length) k cs h q:=by
  unfold apV;split
  .trivial
  .grind
 show apV false s n by_ (.ref s' e 0 L L cells.length) y h q
 rw[e1];unfold apC;rw[if_neg aa];have g:aw h s' e=.data n cells false false:=by simp[aw,hs']
 have hpos:0<cs.length:=by rw[hcs];exact X3 hk hn
 simp only[g,true_and,Zj];rw[if_pos ⟨Z8 _,aa,hcs⟩,if_neg aa,if_pos hb];simp only[Zf,if_false,Bool.or_self];rw[if_pos ⟨aa,aa⟩];simp only[Yu,bL];rw[Z2 aa];rw[List.length_append,hc]at hq;exact hq
structure Ph(p:LiQ)(w:Mz)(x:LiQ):Prop where
 l:x.length=p.length
 b:bd9 x
 r:rcB x=0
 t:bd9 (cG w x)
def tpD(w:Mz)(l:Mz):LdQ:=l.map λx=>row (cG w x)
theorem Pv(w l:Mz):(tpD w l).length=l.length:=by simp[tpD]
theorem aaP(w a:Mz)(x:LiQ):tpD w (a++[x])=tpD w a++[row (cG w x)]:=by simp[tpD]
theorem PC(h:rY p c w){l:Mz}(hl:l.length<1000)(ho:∀x∈l,Ph p w x)(b1:Nat×Bk)(h0:Hp)(K:KL):∀(q a:Mz),l=a++q ->
  K (.exit 1) [(acU 2).v l.length (tpD w l)] [(1,.vars [lst di p,mat c,mat w]),b1,(acU 2).b l.length (tpD w l)] ->
  lp (jU (CX Y) (.ptr 0 1 0 3) (mat l) (I l.length)) [] h0 [(acU 2).v a.length (tpD w a),I a.length] [(1,.vars [lst di p,mat c,mat w]),b1,(acU 2).b a.length (tpD w a)] K
 | [],a,e,hK=>by
  simp only[Zq]at e;subst e;refine aj ?_;have hlt:¬((l.length:Int)<(l.length:Int)):=aa;simp only[jU];simp[hlt];exact hK
 | x::q,a,e,hK=>by
  refine aj ?_;have hlt:((a.length:Int)<(l.length:Int)):=by rw[e];simp;omega
  have hal:a.length<l.length:=aa;have hx:=ho x (by grind);have i1:∀h:Hp,ixV h 1 (mat l) (I a.length)=some (.dptr (l.map row) a.length):=λh=>by simp_all
  have i2:∀h:Hp,ld1 h (.dptr (l.map row) a.length)=some (lst di x):=λh=>by
   rw[k8 row l _ hal];simp only[e,Zm (Z8 _),Zc,Zh];rfl
  obtain⟨H,hH⟩:∃H:Hp,H=[(1,.vars [lst di p,mat c,mat w]),b1,(acU 2).b a.length (tpD w a)]:=⟨_,rfl⟩;have g1:lO H 0 1=.vars [lst di p,mat c,mat w]:=by rw[hH];rfl
  have tl:(cG w x).length<1000000:=by simp only[cG,List.length_map];have:=h.lw.ml;omega
  rw[<-hH];have hli:eC 1 [nPQ] [(0,lst di (cG w x))] H=some ([row (cG w x)],H):=by simp[eC,iH,kJ,toD,norm,lst,row]
  simp only[jU];simp[hlt,i1,i2,g1];refine cd (args:=[tpV p c w,lst di x]) (IR h hx.l hx.b hx.r hx.t) ?_ (by rfl);simp[hli];refine nm (acU 2) (by_:=24) (k:=1) (cs:=[row (cG w x)]) aa (by rw[hH];rfl) (by simp[acU,Pv]) (by rfl) rfl (by grind) aa (by simp[acU]) ?_
  have hs:H.set (acU 2).s ((acU 2).b (a.length+1) (tpD w a++[row (cG w x)]))=[(1,.vars [lst di p,mat c,mat w]),b1,(acU 2).b (a.length+1) (tpD w a++[row (cG w x)])]:=by rw[hH];rfl
  rw[hs];have ih:=PC h hl ho b1 h0 K q (a++[x]) (by simp[e]) hK;have e4:((a++[x]).length:Int)=(a.length:Int)+1:=ac;rw[e4,aaP,List.length_append]at ih;simp(disch:=try exact ae)
  simp_all[dC]
theorem Pz(h:rY p c w)(hg:gtB w=0){l:Mz}(hl:l.length<=60)(ho:∀x∈l,Ph p w x)(hm:mzB p l=0):CP Y F.cr [tpV p c w,mat l] (.tup [mat (l.map (cG w)),I (nth 0 (nth [] w 0) 0),I 0]):=by
 refine rI ?_;simp only[cr,tpV];simp;refine cd (args:=[tpV p c w]) (OK h hg) ?_ (by rfl);have l1:aO (mat l)=some (I l.length):=rfl;have g60:¬((l.length:Int)>60):=aa;have ok1:∀m:LiQ,okV (lst di m)=true:=λ_=>rfl
 have hn:=h.lc.n12;have a2:=CM (p:=p) (m:=l) aa aa;rw[hm]at a2;simp[l1,g60,ok1];refine cd a2 ?_ (by rfl);simp[l1];refine lo (PC h aa ho _ _ _ l [] rfl ?_);simp
 obtain⟨h',e1,_⟩:=oV (acU 2) (L:=l.length) (cells:=tpD w l) (h:=[(1,.vars [lst di p,mat c,mat w]),(1,.vars [I (nth 0 (nth [] w 0) 0),lst di (nth [] w 0),lst di (nth [] w 1)]),(acU 2).b l.length (tpD w l)]) rfl (by simp[acU,Pv]);refine⟨h',?_⟩
 simp_all[bV,aK,lst,tpD]
theorem LR{a:Q}(h:okQ a):okQ (C9 a):=⟨h.1,by simp only[C9,Xz];exact h.2⟩
theorem P7{a:Q}{K:Nat}(h:qL K a):qL K (C9 a):=⟨by simp only[C9,Xz];exact h.1,h.2⟩
theorem Tj{a:Q}(la:qL 100000 a):CP Y F.ou [.agg (qT a)] (.agg (qT (C9 a))):=by refine F9 ?_;have n1:=z8 (z:=a.1) (by have:=la.1;omega);simp only[ou,qT,C9];simp;refine cd n1 ?_;simp;simp[mh]
theorem Tg{a b:Q}(ha:okQ a)(hb:okQ b)(la:qL 50000 a)(lb:qL 50000 b):CP Y F.oo [.agg (qT a),.agg (qT b)] (.agg (qT (nK a (C9 b)))):=by
 refine F7 ?_;have n1:=Tj (a:=b) (lb.mono aa);have n2:=Gg ha (LR hb) (la.mono aa) ((P7 lb).mono aa);obtain⟨x,y,hxy⟩:∃x y,qT (nK a (C9 b))=[S x,S y]:=⟨_,_,rfl⟩;obtain⟨x2,y2,hxy2⟩:∃x y,qT (C9 b)=[S x,S y]:=⟨_,_,rfl⟩;rw[hxy,hxy2]at n2;rw[hxy2]at n1;rw[hxy];simp only[qT]at n1 n2 ⊢;simp only[oo];simp
 refine cd n1 ?_ (by rfl);simp;refine cd n2 ?_ (by rfl);simp;simp[mh]
theorem EQ{p:LiQ}{k:Q}(hp:pcB p=0)(h0:0<p.length)(hN:p.length<1000)(hk:okQ k∧qL 30 k)(hr:okS (pP p.length [kP p.length] [k])):CP Y F.fu [lst di p,.agg (qT k)] (.tup [szV (pP p.length [kP p.length] [k]),I 0]):=by refine zE ?_;have a1:=Tp (p:=p) hp aa h0;have a2:=UO (p:=p) (s:=kP p.length) (k:=k) hp aa (by grind[kP]) (OR _) hk hr;simp only[qT]at a2 ⊢;simp only[fu];simp;refine cd a1 ?_;simp;refine cd a2 ?_ (by rfl);simp;exact⟨_,rfl⟩
def E9(r:LiQ)(div:Int)(i:Nat)(x:Int):Q:=if i=0 then uZ (nK (x,1) (C9 (eU (nth 0 r 0) div))) (nth 0 r 1,1)else uZ (x,1) (nth 0 r 1,1)
def oO(r:LiQ)(div:Int):Nat->LiQ->List Q
 |_,[]=>[]
 |i,x::q=>E9 r div i x::oO r div (i+1) q
theorem Ia(r:LiQ)(div:Int):∀(i:Nat)(a:LiQ)(x:Int),oO r div i (a++[x])=oO r div i a++[E9 r div (i+a.length) x]
 |i,[],x=>by rfl
 | i,y::a,x=>by
  simp only[List.cons_append,oO,Ia r div (i+1) a x,List.length_cons];rw[show i+1+a.length=i+(a.length+1) by omega]
theorem xI(r:LiQ)(div:Int):∀(i:Nat)(a:LiQ),(oO r div i a).length=a.length
 |_,[]=>rfl
 |i,_::a=>by simp[oO,xI r div (i+1) a]
def prA:Acc:=⟨4,0,2,.none⟩
def prC(s:List Q):LdQ:=(s.map tx).flatMap aB
theorem u5(s:List Q):(prC s).length=s.length*2:=by rw[prC,fp aB aH,List.length_map]
theorem Qd(s:List Q)(k:Q):prC (s++[k])=prC s++aB (tx k):=by simp[prC]
def prV(s:List Q):V:=if s=[]then .ref 1 1 0 0 0 0 else prA.v s.length (prC s)
def prH(by_:Q)(s:List Q):Hp:=[(1,.vars (qT by_)),(1,.data 2 [] true false),nnQ,nnQ,prA.b s.length (prC s)]
theorem ad0{s:List Q}{k b:Q}{s2 s3:Nat×Bk}{q:kkQ}{u:PU q}(hn:s.length<1000)
  (hq:q (prV (s++[k])) [(1,.vars (qT b)),(1,.data 2 [] true false),s2,s3,prA.b (s.length+1) (prC (s++[k]))]) :
  rh (apV false 4 2 32 (prV s) (.d (.sl 1 (aB (tx k)))) [(1,.vars (qT b)),(1,.data 2 [] true false),s2,s3,prA.b s.length (prC s)]) q u:=by
 by_cases e:s=[]
 .subst e;trivial
 .rw[prV,if_neg e];refine nm prA (by_:=32) (k:=1) (cs:=aB (tx k)) aa rfl (by rw[u5];rfl) rfl rfl (by grind) aa af ?_
  simp_all[prV,prA,Qd]
theorem Fj(h : -1000000000<=z∧z<=1000000000):okQ (z,1)∧qL 30 (z,1):=Fu z aa aa
theorem J7(h : -1000000000<=z∧z<=1000000000):CP Y F.d7 [I z,I 1] (.tup [.agg (qT (z,1)),I 0]):=by
 have:=uD (n:=z) (d:=1) af aa aa af af
 grind[FB]
theorem Qb{r x:LiQ}{div:Int}(hr2:2<=r.length)(hr:bd9 r)(h1:nth 0 r 1≠0)(hd:div≠0)(hdb : -1000000000<=div∧div<=1000000000)(hx:bd9 x)(hn:x.length<1000)(h0:Hp)(hh0:∃a b c d e,h0=[a,b,(0,c),(0,d),e])(K:KL) :
  ∀(q a:LiQ),x=a++q->K (.exit 0) [prV (oO r div 0 x)] (prH (nth 0 r 1,1) (oO r div 0 x)) ->
  lp (kT (CX Y) (lst di r) (I div) (.ptr 0 1 0 2) (lst di x) (I x.length)) [2,3] h0 [prV (oO r div 0 a),I a.length] (prH (nth 0 r 1,1) (oO r div 0 a)) K
 | [],a,e,hK=>by
  simp only[Zq]at e;subst e;refine aj ?_;have hlt:¬((x.length:Int)<(x.length:Int)):=aa;simp only[kT];simp[hlt];exact hK
 | z::q,a,e,hK=>by
  refine aj ?_;have hlt:((a.length:Int)<(x.length:Int)):=by rw[e];simp;omega
  have hal:a.length<x.length:=aa;have hz:=hx z (by grind);have i1:∀h:Hp,ixV h 1 (lst di x) (I a.length)=some (.dptr (x.map di) a.length):=λh=>by simp_all
  have i2:∀h:Hp,ld1 h (.dptr (x.map di) a.length)=some (I z):=λh=>by
   simp_all
  have hr1 : -1000000000<=nth 0 r 1∧nth 0 r 1<=1000000000:=hr _ (og aa);have hr0 : -1000000000<=nth 0 r 0∧nth 0 r 0<=1000000000:=hr _ (og aa);have j1:∀h:Hp,ixV h 1 (lst di r) (.d (.int .i64 0))=some (.dptr (r.map di) 0):=λh=>fN di r h rfl aa
  have j2:∀h:Hp,ld1 h (.dptr (r.map di) 0)=some (I (nth 0 r 0)):=λh=>eV di 0 r h aa
  obtain⟨s,hs⟩:=nmQ (oO r div 0 a);have hsl:s.length=a.length:=by rw[hs,xI]
  have hsn:s.length<1000:=aa;have eG:oO r div 0 (a++[z])=s++[E9 r div a.length z]:=by rw[Ia,<-hs,Zj]
  have o1:=Fj hz;have o2:=Fj hr1;rw[<-hs];simp only[prH,qT];simp only[kT];simp[hlt,i1,i2];refine cd (J7 hz) ?_;simp only[qT];simp;obtain⟨A,B',c0,d0,E,rfl⟩:=hh0
  have main:∀(kq:Q)(s3:Nat×Bk),okQ kq->qL 50001 kq->E9 r div a.length z=uZ kq (nth 0 r 1,1)->(s3=nnQ∨∃y:Q,s3=(1,.vars (qT y))) ->
    (bnd (ldA [(1,Bk.vars (qT (nth 0 r 1,1))),(1,Bk.data 2 [] true false),(1,Bk.vars (qT kq)),s3,prA.b s.length (prC s)] 2 (V.ptr 2 1 0 2)) λv12=>
    bnd (ldA [(1,Bk.vars (qT (nth 0 r 1,1))),(1,Bk.data 2 [] true false),(1,Bk.vars (qT kq)),s3,prA.b s.length (prC s)] 2 (V.ptr 0 1 0 2)) λv13=>
     cal (CX Y).p [(1,Bk.vars (qT (nth 0 r 1,1))),(1,Bk.data 2 [] true false),(1,Bk.vars (qT kq)),s3,prA.b s.length (prC s)] (V.fn F.kh [] []) [v12,v13] λv14 h=>
      ext v14 0 λv15=>
       ext v14 1 λv16=>
        stD h 2 (V.ptr 2 1 0 2) v15 λx_1 h=>
         bnd (ldA h 2 (V.ptr 2 1 0 2)) λv18=>
          cY 1 [D.str [],D.str []] [(0,v18)] h λv19 h=>
           apV false 4 2 32 (prV s) v19 h λv20 h=>
            bnd (biI BinOp.add (I ↑a.length) (V.d (D.int IntKind.i64 1))) λv21=>
             clean [2,3] [v20,v21] h=true ∧
              lp (kT (CX Y) (lst di r) (I div) (V.ptr 0 1 0 2) (lst di x) (I ↑x.length))
               [2,3] [A,B',(0,c0),(0,d0),E] [v20,v21] (aS [2,3] 0 [A,B',(0,c0),(0,d0),E] h) K):=by
   intro kq s3 k1 k2 k3 k4;have dv:=MQ k1 o2.1 aa (k2.mono aa) (o2.2.mono aa);rw[<-k3]at dv;obtain⟨kk,hkk⟩:=nmQ (E9 r div a.length z);rw[<-hkk]at dv eG;simp only[qT]at dv ⊢;simp;refine cd dv ?_ (by rfl)
   have hli:∀h:Hp,eC 1 [D.str [],D.str []] [(0,.agg [V.d (.str (itoa kk.1)),V.d (.str (ah kk.2))])] h=some (aB (tx kk),h):=λh=>QJ kk h
   simp[hli];refine ad0 (s:=s) (k:=kk) (b:=(nth 0 r 1,1)) hsn ?_;have ih:=Qb hr2 hr h1 hd hdb hx hn [A,B',(0,c0),(0,d0),E] ⟨A,B',c0,d0,E,rfl⟩ K q (a++[z]) (by simp[e]) hK;have e4:((a++[z]).length:Int)=(a.length:Int)+1:=ac;rw[e4,eG]at ih;have ev:prV (s++[kk])=.ref 4 1 0 (s.length+1) (s.length+1) (prC (s++[kk])).length:=by simp[prV,prA,Acc.v]
   have cl:clean [2,3] [prV (s++[kk]),I ((a.length:Int)+1)] [(1,Bk.vars (qT (nth 0 r 1,1))),(1,Bk.data 2 [] true false),(1,Bk.vars (qT kk)),s3,prA.b (s.length+1) (prC (s++[kk]))]=true:=by
    rw[ev];rcases k4 with rfl|⟨y,rfl⟩<;>rfl
   have rs:aS [2,3] 0 [A,B',(0,c0),(0,d0),E] [(1,Bk.vars (qT (nth 0 r 1,1))),(1,Bk.data 2 [] true false),(1,Bk.vars (qT kk)),s3,prA.b (s.length+1) (prC (s++[kk]))]=prH (nth 0 r 1,1) (s++[kk]):=by
    rw[prH,List.length_append];obtain⟨A1,A2⟩:=A;obtain⟨B1,B2⟩:=B';obtain⟨E1,E2⟩:=E;obtain⟨S1,S2⟩:=s3;rfl
   have ea:biI BinOp.add (I (a.length:Int)) (V.d (D.int IntKind.i64 1))=some (I ((a.length:Int)+1)):=by simp(disch:=try exact ae)
   rw[ea];refine⟨cl,?_⟩;rw[<-rs]at ih;exact ih
  by_cases e0:a=[]
  .refine aM ?_;have fo:=uD (n:=nth 0 r 0) (d:=div) hd aa aa aa aa;have lz:=oZ (n:=nth 0 r 0) hd;have lL:qL 30 (eU (nth 0 r 0) div):=FC (Zy (rU aa aa) af) (Zy (rU aa aa) af);have sb:=Tg o1.1 lz (o1.2.mono aa) (lL.mono aa)
   have m1:=main (nK (z,1) (C9 (eU (nth 0 r 0) div))) (1,.vars (qT (eU (nth 0 r 0) div))) (P9 o1.1 (LR lz)) ((VB o1.2 (P7 lL)).mono aa) (by simp[E9,e0]) (.inr ⟨_,rfl⟩);generalize eU (nth 0 r 0) div=w1 at *;generalize nK (z,1) (C9 w1)=w2 at *;simp only[qT]at fo sb m1;simp[e0,j1,j2];refine cd fo ?_;simp;refine cd sb ?_ (by rfl);simp;exact m1
  .refine aM ?_;have m1:=main (z,1) nnQ o1.1 (o1.2.mono aa) (by simp[E9,e0]) (.inl rfl);simp only[qT]at m1;simp[e0];exact m1
theorem pure_ok{p:LiQ}(hp:pcB p=0)(hl:x.length=p.length)(hr2:2<=r.length)(hr:bd9 r)(h1:nth 0 r 1≠0)(hd:div≠0)(hdb : -1000000000<=div∧div<=1000000000)(hx:bd9 x)(hn:x.length<1000)(h0:x≠[])(ho:okS (oO r div 0 x)):
  CP Y F.gS [lst di p,lst di x,lst di r,I div] (.tup [szV (oO r div 0 x),B true,I 0]):=by
 refine vN ?_;have j1:∀h:Hp,ixV h 1 (lst di r) (.d (.int .i64 1))=some (.dptr (r.map di) 1):=λh=>fN di r h rfl aa
 have j2:∀h:Hp,ld1 h (.dptr (r.map di) 1)=some (I (nth 0 r 1)):=λh=>eV di 0 r h aa
 have hr1 : -1000000000<=nth 0 r 1∧nth 0 r 1<=1000000000:=hr _ (og aa);have fo:=J7 hr1;have hli:∀h:Hp,eC 0 [D.str [],D.str []] [] h=some ([],h):=λh=>by rfl
 have l1:aO (lst di x)=some (I x.length):=rfl;have ck:=II (p:=p) (s:=oO r div 0 x) hp aa (by rw[xI,hl]) ho;simp only[qT]at fo;simp only[gS];simp[j1,j2,h1];refine cd fo ?_;simp[hli,l1];have lp0:=Qb hr2 hr h1 hd hdb hx hn [(1,.vars [S (itoa (nth 0 r 1)),S (ah 1)]),(1,Bk.data 2 [] true false),nnQ,nnQ,nnQ] ⟨_,_,_,_,_,rfl⟩
 refine lo (lp0 _ x [] rfl ?_);simp;obtain⟨s,hs⟩:=nmQ (oO r div 0 x);have hsl:s.length=x.length:=by rw[hs,xI]
 rw[<-hs]at ck ⊢;have hs0:s≠[]:=λe=>h0 (by grind)
 obtain⟨h',e1,_⟩:=oV prA (L:=s.length) (cells:=prC s) (h:=prH (nth 0 r 1,1) s) rfl (u5 s)
 have e2:bV (prH (nth 0 r 1,1) s) (prV s)=some (szV s,h'):=by
  rw[prV,if_neg hs0,e1];simp[szV,iQ,prC]
 refine tc (ds:=[lst di p,szV s]) (h':=h') ?_ ck ?_
 .simp_all[aK]
 .rw[show(if cu (I 0)=true then prH (nth 0 r 1,1) s else h')=prH (nth 0 r 1,1) s from rfl];simp
  simp_all[jB]
def nuA:Acc:=⟨1,0,2,.none⟩
theorem abo(a:LiQ)(z:Int):ofQ (a++[z])=ofQ a++[(z,1)]:=by simp[ofQ]
theorem vd(a:LiQ):(ofQ a).length=a.length:=by simp[ofQ]
theorem Qu{r:LiQ}(hr:bd9 r)(hn:r.length<1000)(x0 y0:Bk)(K:KL):∀(q a:LiQ),r=a++q->K (.exit 0) [nuA.v r.length (prC (ofQ r))] [nnQ,nuA.b r.length (prC (ofQ r))] ->
  lp (mY (CX Y) (lst di r) (I r.length)) [0] [(0,x0),(0,y0)] [nuA.v a.length (prC (ofQ a)),I a.length] [nnQ,nuA.b a.length (prC (ofQ a))] K
 | [],a,e,hK=>by
  simp only[Zq]at e;subst e;refine aj ?_;have hlt:¬((r.length:Int)<(r.length:Int)):=aa;simp only[mY];simp(disch:=try exact ae)[hlt];exact hK
 | z::q,a,e,hK=>by
  refine aj ?_;have hlt:((a.length:Int)<(r.length:Int)):=by rw[e];simp;omega
  have hal:a.length<r.length:=aa;have hz:=hr z (by rw[e];simp);have i1:∀h:Hp,ixV h 1 (lst di r) (I a.length)=some (.dptr (r.map di) a.length):=λh=>by rw[e];exact vr di a z q _ _
  have i2:∀h:Hp,ld1 h (.dptr (r.map di) a.length)=some (I z):=λh=>by
   rw[k8 di r _ hal];simp only[e,Zm (Z8 _),Zc,Zh];rfl
  have lq:∀H,eC 1 [D.str [],D.str []] [(0,.agg (qT (z,1)))] H=some (aB (tx (z,1)),H):=λH=>QJ _ H
  have ih:=Qu hr hn x0 y0 K q (a++[z]) (by rw[e];simp) hK;have ee:prC (ofQ (a++[z]))=prC (ofQ a)++aB (tx (z,1)):=by rw[abo,Qd]
  rw[List.length_append,List.length_singleton,ee]at ih;have e4:((a.length+1:Nat):Int)=(a.length:Int)+1:=aa;rw[e4]at ih;simp only[qT]at lq;simp only[mY];simp(disch:=try exact ae)[hlt,i1,i2];refine cd (J7 hz) ?_;simp only[qT];simp(disch:=try exact ae)[lq]
  refine nm nuA (by_:=32) (k:=1) (cs:=aB (tx (z,1))) aa rfl (by rw[u5,vd];rfl) rfl rfl (by intro t ht;cases ht) aa af ?_;simp(disch:=try exact ae);rw[<-List.length_append];exact⟨rfl,ih⟩
theorem Ft(hr:bd9 r)(hn:r.length<1000):CP Y F.jv [lst di r] (szV (ofQ r)):=by
 refine Bl ?_;have l1:aO (lst di r)=some (I r.length):=rfl;simp only[jv];simp(disch:=try exact ae)[l1];refine lo (Qu hr hn _ _ _ r [] rfl ?_);simp(disch:=try exact ae);have ll:((ofQ r).map tx).length=r.length:=by simp[ofQ]
 have:=x8 nuA (L:=r.length) (cells:=prC (ofQ r)) (h:=[nnQ,nuA.b r.length (prC (ofQ r))]) rfl (by rw[u5,vd];rfl);simpa[szV,iQ,prC,ll]using this
theorem LM(a b:Nat):((List.replicate a zT++List.replicate b cD).flatMap aB).length=(a+b)*2:=by rw[fp aB aH];simp
theorem abV(t:Tx){m:Nat}(h:m<=i):((List.replicate i t).flatMap aB).take (m*2)=(List.replicate m t).flatMap aB:=by obtain⟨d,rfl⟩:=Nat.exists_eq_add_of_le h;rw[<-List.replicate_append_replicate,Yk,List.take_append_of_le_length (by rw[fp aB aH];simp),Z2 (by rw[fp aB aH];simp)]
theorem abW(t:Tx){m:Nat}(h:m<=i):((List.replicate i t).flatMap aB).drop (m*2)=(List.replicate (i-m) t).flatMap aB:=by obtain⟨d,rfl⟩:=Nat.exists_eq_add_of_le h;rw[<-List.replicate_append_replicate,Yk,List.drop_append_of_le_length (by rw[fp aB aH];simp),List.drop_of_length_le (by rw[fp aB aH];simp),List.nil_append,Nat.add_sub_cancel_left]
theorem B9(t:Tx)(i:Nat):((List.replicate i t).flatMap aB).length=i*2:=by rw[fp aB aH,Zd]
@[simp ↓] theorem aif (h:Hp)(n:Nat)(x y:V)(k:kkQ):cpD h n x y k=rh (cpD h n x y) k .mk:=id rfl
theorem ZP{h:Hp}{n i r j m cap:Nat}(hi:i+r=n)(hm:min j r=m)(m0:0<m){y:V}(hy:cellsOf (hz h (List.replicate i zT++List.replicate r cD)) y=some (j,(List.replicate j zT).flatMap aB)){k:kkQ}{u:PU k}
  (hk:k (I m) (hz h (List.replicate (i+m) zT++List.replicate (r-m) cD))):rh (cpD (hz h (List.replicate i zT++List.replicate r cD)) 2 (.ref h.length 1 (i*2) r cap (n*2)) y) k u:=by
 show cpD _ 2 _ y k
 have hl:((List.replicate i zT++List.replicate r cD).flatMap aB).length=n*2:=by rw[LM,hi]
 have mj:m<=j:=aa;have mr:m<=r:=aa;unfold cpD;simp only[dQ (ze h _),hy,hm];rw[if_pos ⟨⟨m0,by trivial,aa,by trivial⟩,hl.symm,B9 _ _,by rw[hl];omega⟩];have a1:=B9 zT i
 have p1:List.take (i*2) ((List.replicate i zT++List.replicate r cD).flatMap aB)=(List.replicate i zT).flatMap aB:=by
  rw[Yk,List.take_append_of_le_length aa,Z2 aa]
 have p2:List.drop (i*2) ((List.replicate i zT++List.replicate r cD).flatMap aB)=(List.replicate r cD).flatMap aB:=by
  rw[Yk,List.drop_append_of_le_length aa,List.drop_of_length_le aa,List.nil_append]
 have e:(List.take (i*2) ((List.replicate i zT++List.replicate r cD).flatMap aB)++List.take (m*2) ((List.replicate j zT).flatMap aB)++List.drop (i*2+m*2) ((List.replicate i zT++List.replicate r cD).flatMap aB))=(List.replicate (i+m) zT++List.replicate (r-m) cD).flatMap aB:=by
  rw[p1,abV zT mj,<-List.drop_drop,p2,abW cD mr,Yk,<-List.replicate_append_replicate,Yk]
 rw[e];have:=J0 h (List.replicate i zT++List.replicate r cD) (List.replicate (i+m) zT++List.replicate (r-m) cD);rw[bL,this];exact hk
theorem CG{h:Hp}{n:Nat}(hn:n<10)(K:KL)(h0:Hp):∀(f i r:Nat),r<=f->0<i->i+r=n->K (.exit 0) [] (hz h (List.replicate n zT)) ->
  lp (bv (CX Y) h.length (.ref h.length 1 0 n n (n*2))) [] h0 [I i] (hz h (List.replicate i zT++List.replicate r cD)) K
 | f,i,0,hf,hi0,hi,hK=>by
  have:i=n:=aa;subst this;refine aj ?_;have l1:aO (.ref h.length 1 0 i i (i*2))=some (I i):=rfl;have hlt:¬((i:Int)<(i:Int)):=aa;simp only[bv];simp(disch:=try exact ae)[l1,hlt];simpa using hK
 |0,i,r+1,hf,hi0,hi,hK=>by omega
 | f+1,i,r+1,hf,hi0,hi,hK=>by
  refine aj ?_;have l1:aO (.ref h.length 1 0 n n (n*2))=some (I n):=rfl;have hlt:((i:Int)<(n:Int)):=aa;simp only[bv];have hl:((List.replicate i zT++List.replicate (r+1) cD).flatMap aB).length=n*2:=by rw[LM,hi]
  have hg:=dQ (ze h (List.replicate i zT++List.replicate (r+1) cD))
  have s1:slV (hz h (List.replicate i zT++List.replicate (r+1) cD)) 2 (V.ref h.length 1 0 n n (n*2)) (some (I i)) none=some (.ref h.length 1 (i*2) (r+1) (r+1) (n*2)):=by
   have b1:boV 0 n (some (I (i:Int)))=some i:=by
    show(if(0:Int)<=i∧(i:Int)<=(n:Int)then some (i:Int).toNat else none)=_
    rw[if_pos ⟨aa,aa⟩,Int.toNat_natCast]
   simp only[slV,hg,boV,b1]
   show(match boV 0 n (some (I (i:Int)))with|some i=>_|none=>none)=_
   rw[b1];simp only;rw[if_pos ⟨hl.symm,Z8 _,by trivial⟩,Zj,show n-i=r+1 by omega]
  have s2:slV (hz h (List.replicate i zT++List.replicate (r+1) cD)) 2 (V.ref h.length 1 0 n n (n*2)) none (some (I i))=some (.ref h.length 1 0 i n (n*2)):=by
   have b1:boV n n (some (I (i:Int)))=some i:=by
    show(if(0:Int)<=i∧(i:Int)<=(n:Int)then some (i:Int).toNat else none)=_
    rw[if_pos ⟨aa,aa⟩,Int.toNat_natCast]
   simp only[slV,hg,b1]
   show(match boV 0 i none with|some i'=>_|none=>none)=_
   rw[show boV 0 i none=some 0 from rfl];simp only;rw[if_pos ⟨hl.symm,Z8 _,by trivial⟩];simp
  have hc:cellsOf (hz h (List.replicate i zT++List.replicate (r+1) cD)) (.ref h.length 1 0 i n (n*2))=some (i,(List.replicate i zT).flatMap aB):=by
   simp only[cellsOf,hg];rw[if_pos ⟨hl.symm,by rw[hl];omega⟩,Yu,Yk,List.take_append_of_le_length (by rw[B9];exact Z8 _),Z2 (by rw[B9];exact Z8 _)]
  simp(disch:=try exact ae)[l1,hlt,s1,s2];refine ZP (m:=min i (r+1)) hi rfl aa hc ?_;obtain⟨m,hm⟩:=nmQ (min i (r+1));rw[<-hm];have ih:=CG hn K h0 f (i+m) (r+1-m) aa aa aa hK;simp(disch:=try exact ae);rw[Int.natCast_add]at ih;rw[dC];exact lo ih
theorem Sv(hu:(h.all λx=>ax h.length x.2)=true)(h1:0<n)(hn:n<10):CI Y F.aP [.d (.sl 1 (aB zT)),I n] h (.new 2 ((List.replicate n zT).flatMap aB) true n n) h:=by
 refine nU ?_;have mu:=SQ (n:=n) hn;have nn:¬((n:Int)<0):=aa;simp only[aP];have w1:IntKind.u64.wrap (n:Int)=n:=wrap_u64 aa;have v1:aO (.d (.sl 1 (aB zT)))=some (I 1):=rfl;have v2:cvI IntKind.u64 (I 1)=some (.d (.int .u64 1)):=rfl;simp(disch:=try exact ae)[nn];refine aM ?_;rw[w1]
 simp(disch:=try exact ae)[v1,v2];refine cd mu ?_ (by rfl);simp(disch:=try exact ae);refine aM ?_;simp(disch:=try exact ae);refine Ow (e:=0) (b:=.none) ac aa ?_
 have e0:(h++[(0,Bk.none)]).set h.length (0+1,.data 2 ((List.replicate n cD).flatMap aB) true false)=hz h (List.replicate 0 zT++List.replicate n cD):=by simp[hz]
 rw[e0]
 have c1:=ZP (h:=h) (n:=n) (i:=0) (r:=n) (j:=1) (m:=1) (cap:=n) (y:=.d (.sl 1 (aB zT))) (k:=λv18 h_2=>
    lp (bv (CX Y) h.length (.ref h.length 1 0 n n (n*2))) [] h_2 [v18] h_2
     (exK [(Exit.exit 0,λl19 h_3=>mi h.length (V.new 2 (List.flatMap aB (List.replicate n zT)) true n n) h (.ref h.length 1 0 n n (n*2)) h_3)])) (u:=.mk) aa aa aa (by simp[cellsOf]) ?_
 .exact c1
 refine CG hn _ _ n 1 (n-1) aa aa aa ?_;have hfl:=B9 zT n;refine⟨by simp[hz],?_,.inr (.inr (.inl ⟨h.length,1,n,n,2,(List.replicate n zT).flatMap aB,true,by rw[hfl],Z8 _,?_,rfl⟩))⟩
 .simp only[hz,Zb,hu,Yz]
 .simp[hz,aw]
theorem Ro{h:Hp}{s fs:List Q}{k:Q}{i:Nat}(hi:i<fs.length)(hki:nth ([],[]) (fs.map tx) i=tx k)(hf:fs.length<1000000)(hN:s.length<1000000){Ko Ks Kk:Nat}(hk:okQ k)(lk:qL Kk k)
  (b1:Ko<=100000) (b2:Ks+Kk<=100000) (h0:Hp) (kk:KL):∀(q a oq a':List Q),a++q=s->a'.length=a.length->oq.length=q.length->okK Ko oq->okK Ks q->kk (.exit 2) [] (hz h ((a'++rX k oq q).map tx)) ->
  lp (mZ (CX Y) h.length (szV fs) (.ref h.length 1 0 s.length s.length (s.length*2)) (I i) (szV s) (I s.length)) [] h0 [I a.length] (hz h ((a'++oq).map tx)) kk
 | [],a,oq,a',ha,h1,h2,ho,hs,hkk=>by
  simp only[Zq]at ha;simp only[List.length_nil]at h2;have h2':oq=[]:=Zl h2;subst ha h2';have hlt:¬((a.length:Int)<(a.length:Int)):=aa;refine aj ?_;simp only[mZ];simp(disch:=try exact ae)[hlt];simpa[rX]using hkk
 |x::q,a,[],a',ha,h1,h2,ho,hs,hkk=>by simp at h2
 | x::q,a,y::oq,a',ha,h1,h2,ho,hs,hkk=>by
  have hal:a.length<s.length:=by subst ha;simp
  obtain⟨o1,o2⟩:=ho y ac;obtain⟨s1,s2⟩:=hs x ac;have hlen:((a'++y::oq).map tx).length=s.length:=by subst ha;simp at h2 ⊢;omega
  have mul:=MP s1 hk (s2.mono aa) (lk.mono aa);have add:=Gg o1 (Jt s1 hk) (o2.mono b1) ((Of s2 lk).mono aa);have g1:(a.length:Int)<(s.length:Int):=aa;have hx:nth ([],[]) (s.map tx) a.length=tx x:=by subst ha;exact oQ ..
  have hy:nth ([],[]) ((a'++y::oq).map tx) a.length=tx y:=by rw[<-h1];exact oQ ..
  have i1:=λh:Hp=>m9 aB aH (s.map tx) h (k:=.i64) (i:=(a.length:Int)) aa (by grind)
  have i2:=λh:Hp=>oi aB aH ([],[]) (s.map tx) h (j:=a.length) (by grind)
  have j1:=λh:Hp=>m9 aB aH (fs.map tx) h (k:=.i64) (i:=(i:Int)) aa (by grind)
  have j2:=λh:Hp=>oi aB aH ([],[]) (fs.map tx) h (j:=i) (by grind)
  simp only[hx,hki,Int.toNat_natCast]at i1 i2 j1 j2;have hg:=ze h ((a'++y::oq).map tx);have e1:=ixR hg hlen (c:=a.length) hal .i64;have e2:=ldR hg hlen (c:=a.length) hal;have e3:=stR hg hlen (c:=a.length) hal (tx (nK y (pf x k)))
  have es:((a'++y::oq).map tx).set a.length (tx (nK y (pf x k)))=((a'++[nK y (pf x k)])++oq).map tx:=by
   have:=PP (a'.map tx) (tx y) (tx (nK y (pf x k))) (oq.map tx);rw[List.length_map,h1]at this;simpa using this
  simp only[hy,es,J0]at e2 e3;have ih:=Ro (h:=h) hi hki hf hN hk lk b1 b2 h0 kk q (a++[x]) oq (a'++[nK y (pf x k)]) (by grind) (by grind) (by grind) (λw hw=>ho w (by grind)) (λw hw=>hs w (by grind)) (by simpa[rX]using hkk);have e4:(((a++[x]).length:Nat):Int)=(a.length:Int)+1:=ac;rw[e4]at ih;simp only[qT]at mul add
  obtain⟨w1,w2,hw⟩:∃w1 w2,qT (pf x k)=[S w1,S w2]:=⟨_,_,rfl⟩;have z1:szV s=iQ aB (s.map tx):=rfl;have z2:szV fs=iQ aB (fs.map tx):=rfl;generalize hz h ((a'++y::oq).map tx)=H0 at *;generalize hz h ((a'++[nK y (pf x k)]++oq).map tx)=H1 at *;refine aj ?_;simp only[mZ];simp(disch:=try exact ae)[z1,z2,i1,i2,j1,j2,e1,e2,g1];refine cd mul ?_ (by rfl)
  simp(disch:=try exact ae);refine cd add ?_ (by rfl);have e3':st H0 2 (V.ptr h.length 1 (a.length*2) (s.length*2)) (.agg [S (itoa (nK y (pf x k)).fst),S (ah (nK y (pf x k)).snd)])=some H1:=e3;simp(disch:=try exact ae)[e1,e3'];rw[dC];exact lo ih
theorem Nc{h:Hp}{n:Nat}{fs:List Q}(hf:fs.length<1000000)(hN:n<1000000){Ks Kk:Nat}(b2:Ks+Kk<=90000)(h0:Hp)(kk:KL):∀(l a:List (List Q))(q f:List Q)(o:List Q)(Ko:Nat),f++q=fs->f.length=a.length->l.length=q.length->Ko+l.length*(Ks+Kk+1)<=100000 ->
  o.length=n->okK Ko o->(∀s∈l,s.length=n∧okK Ks s)->okK Kk q->kk (.exit 0) [] (hz h ((Br o l q).map tx)) ->
  lp (m5 (CX Y) h.length (szV fs) (.ref h.length 1 0 n n (n*2)) (lst szD (a++l)) (I (a++l).length)) [] h0 [I a.length] (hz h (o.map tx)) kk
 | [],a,q,f,o,Ko,hfq,h1,h2,b1,hn,ho,hl,hq,hkk=>by
  have hlt:¬((a.length:Int)<((a++[]).length:Int)):=ac;refine aj ?_;simp only[m5];simp(disch:=try exact ae)[hlt];simpa[Br]using hkk
 |s::l,a,[],f,o,Ko,hfq,h1,h2,b1,hn,ho,hl,hq,hkk=>by simp at h2
 | s::l,a,k::q,f,o,Ko,hfq,h1,h2,b1,hn,ho,hl,hq,hkk=>by
  obtain⟨s1,s2⟩:=hl s ac;obtain⟨k1,k2⟩:=hq k ac;have hLl:(l.length+1)*(Ks+Kk+1)=l.length*(Ks+Kk+1)+(Ks+Kk+1):=Xp ..;rw[List.length_cons,hLl]at b1;have hb:(a++s::l).length<1000000:=by simp at h2 ⊢;subst hfq;simp at hf;omega
  have g1:(a.length:Int)<((a++s::l).length:Int):=by simp;omega
  have i1:=λh:Hp=>mR szD (a++s::l) h (k:=.i64) (i:=(a.length:Int)) aa g1
  have i2:=λh:Hp=>eV szD [] (a++s::l) h (j:=a.length) ac
  have hnt:nth [] (a++s::l) a.length=s:=ac;simp only[hnt,Int.toNat_natCast]at i1 i2;have hlv:aO (.ref h.length 1 0 n n (n*2))=some (I n):=rfl;have hki:nth ([],[]) (fs.map tx) a.length=tx k:=by rw[<-hfq,<-h1];exact oQ ..
  have hi:a.length<fs.length:=by rw[<-hfq];simp;omega
  simp only[PE]at i2;have ih:=Nc (h:=h) hf hN b2 h0 kk l (a++[s]) q (f++[k]) (rX k o s) (Ko+(Ks+Kk)+1) (by grind) (by grind) (by grind) aa (by rw[A8 k o s (hn.trans s1.symm),s1]) (Ek k1 k2 ho s2) (λt ht=>hl t (by grind)) (λt ht=>hq t (by grind)) (by simpa[Br]using hkk);have e4:(((a++[s]).length:Nat):Int)=(a.length:Int)+1:=ac
  have e5:a++[s]++l=a++s::l:=ac;rw[e4,e5]at ih;generalize a++s::l=L at *;refine aj ?_;simp only[m5];simp(disch:=try exact ae)[i1,i2,g1,hlv];subst s1;refine lo (Ro hi hki hf hN k1 k2 (Ko:=Ko) (Ks:=Ks) aa aa _ _ s [] o [] rfl rfl hn ho s2 ?_);simp(disch:=try exact ae);rw[dC];exact lo ih
theorem ZS{h:Hp}(hu:(h.all λx=>ax h.length x.2)=true){p:LiQ}{l:List (List Q)}{fs:List Q}{Ks Kk:Nat}(h0:0<p.length)(hN:p.length<10)(hf:fs.length<1000000)(hlen:l.length=fs.length)(b2:Ks+Kk<=90000)(b1:1+l.length*(Ks+Kk+1)<=100000)
  (hl:∀s∈l,s.length=p.length∧okK Ks s) (hq:okK Kk fs):CI Y F.jw [lst di p,lst szD l,szV fs] h (.new 2 (prC (pP p.length l fs)) true p.length p.length) h:=by
 refine Bn ?_
 have hu1:((h++[(0,Bk.none)]).all λx=>ax (h++[(0,Bk.none)]).length x.2)=true:=by
  simp only[Zb,Z7];refine⟨?_,rfl⟩;rw[Z1]at hu ⊢;intro x hx;exact ub ac (hu x hx)
 have zi:=Sv hu1 (n:=p.length) h0 hN;have l1:aO (lst di p)=some (I p.length):=rfl;have l2:aO (lst szD l)=some (I l.length):=rfl;simp only[jw]
 have li:∀H:Hp,eC 1 [D.str [],D.str []] [(0,V.agg [V.d (D.str [48]),V.d (D.str [49])])] H=some (aB zT,H):=λH=>by
  have q1:itoa 0=[48]:=aJ;have q2:ah 1=[49]:=aJ;have:=QJ (0,1) H;simp only[qT,q1,q2]at this;exact this
 simp(disch:=try exact ae)[l1,l2,li];refine oN (gz (e:=0) (b:=.none) zi ac ?_);have e0:(h++[(0,Bk.none)]).set h.length (0+1,.data 2 ((List.replicate p.length zT).flatMap aB) true false)=hz h ((List.replicate p.length (0,1)).map tx):=by simp[hz,zT]
 rw[e0,B9];have hz':okK 1 (List.replicate p.length ((0,1):Q)):=El p.length;refine Nc (n:=p.length) hf aa b2 _ _ l [] fs [] _ 1 rfl rfl hlen b1 ac hz' hl hq ?_;simp(disch:=try exact ae)
 have hln:(pP p.length l fs).length=p.length:=by
  unfold pP;rw[ui (λs hs=>by rw[(hl s hs).1];simp)];simp
 have hfl:(prC (pP p.length l fs)).length=p.length*2:=by rw[u5,hln]
 refine⟨by simp[hz],?_,.inr (.inr (.inl ⟨h.length,1,p.length,p.length,2,prC (pP p.length l fs),true,by rw[hfl],Z8 _,?_,rfl⟩))⟩
 .simp only[hz,Zb,hu,Yz]
 .simp[hz,aw,prC,pP]
def tuC(p:LiQ)(c w:Mz)(g:List (List Q)):LwQ:=[lst di p,mat c,mat w,lst szD g]
def tuV(p:LiQ)(c w:Mz)(g:List (List Q)):V:=.agg (tuC p c w g)
structure acV(p:LiQ)(c w:Mz)(g:List (List Q)):Prop where
 tp:rY p c w
 gl:g.length=w.length
 gs:∀s∈g,s.length=p.length∧okS s
variable{p:LiQ}{c w:Mz}{g:List (List Q)}
theorem Ew(h:acV p c w g):CP Y F.lS [tuV p c w g] (I 0):=by
 refine Ev ?_;have hn:=h.tp.lc.n12;have hwl:=h.tp.lw.ml;have hgl:=h.gl;have a1:=yF h.tp;have a2:=xw (p:=p) (l:=g) aa aa (λs hs=>⟨(h.gs s hs).2,by rw[(h.gs s hs).1];omega⟩);rw[if_pos h.tp.pr,Eg λs hs=>(h.gs s hs).1]at a2;have l1:aO (lst szD g)=some (I g.length):=rfl;have l2:aO (mat w)=some (I w.length):=rfl
 have g1:((g.length:Int)=(w.length:Int))=True:=eq_true aa;simp only[lS,tuV,tuC];simp(disch:=try exact ae);refine cd (args:=[tpV p c w]) a1 ?_ (by simp[aK,bV,tpV,mat]);simp(disch:=try exact ae)[l1,l2,g1];refine cd a2 ?_ (by rfl);exact aW rfl
def NT(p:LiQ)(w:Mz)(g:List (List Q))(x:LiQ):List Q:=pP p.length g (ofQ (cG w x))
structure agK(p:LiQ)(w:Mz)(x:LiQ):Prop where
 l:x.length=p.length
 s:smR x=true
 b:bd9 x
 r:rcB x=0
 t:bd9 (cG w x)
theorem K6(hu:(h.all λx=>ax h.length x.2)=true)(ht:acV p c w g)(hp10:p.length<10)(hx:agK p w x):CI Y F.iE [tuV p c w g,lst di x] h (.tup [.new 2 (prC (NT p w g x)) true p.length p.length,I 0]) h:=by
 refine zB ?_;have hn:=ht.tp.lc.n12;have hwl:=ht.tp.lw.ml;have hgl:=ht.gl;have a1:=Ew ht;have a2:=Wb (p:=p) (r:=x) aa;rw[aeh ht.tp.pr hx.l hx.s]at a2;have a3:=IR ht.tp hx.l hx.b hx.r hx.t;have tl:(cG w x).length=w.length:=by simp[cG]
 have a4:=Ft hx.t aa
 have hu1:((h++[(1,Bk.vars (tuC p c w g)),(0,Bk.none)]).all λx=>ax (h++[(1,Bk.vars (tuC p c w g)),(0,Bk.none)]).length x.2)=true:=by
  simp only[Zb,Z7];refine⟨?_,rfl⟩;rw[Z1]at hu ⊢;intro x hx;exact ub ac (hu x hx)
 have ok1:okK 30 (ofQ (cG w x)):=λy hy=>by
  obtain⟨z,hz,rfl⟩:=Zw.1 hy;exact Fj (hx.t z hz)
 have a5:=ZS (p:=p) (l:=g) (fs:=ofQ (cG w x)) hu1 (Ks:=30) (Kk:=30) ht.tp.lc.n0 hp10 (by rw[vd];omega) (by rw[vd];omega) aa aa (λs hs=>ht.gs s hs) ok1;have e0:(h++[(0,Bk.none),(0,Bk.none)])[h.length]?=some (0,Bk.none):=ac;have es:(h++[(0,Bk.none),(0,Bk.none)]).set h.length (1,.vars (tuC p c w g))=h++[(1,Bk.vars (tuC p c w g)),(0,Bk.none)]:=ac
 have hx1:lO (h++[(1,Bk.vars (tuC p c w g)),(0,Bk.none)]) h.length 1=.vars (tuC p c w g):=by simp[lO,aw]
 have hs1:(h++[(1,Bk.vars (tuC p c w g)),(0,Bk.none)])[h.length+1]?=some (0,Bk.none):=ac
 have hf:∀y,(h++[(1,Bk.vars (tuC p c w g)),(0,Bk.none)]).set (h.length+1) y=h++[(1,Bk.vars (tuC p c w g)),y]:=λy=>by
  rw[Y3 _ _ aa];simp
 simp only[iE,tuV];simp only[tuC]at *;simp(disch:=try exact ae)[e0,es,hx1];obtain⟨H1,hH⟩:=nmQ (h++[(1,Bk.vars [lst di p,mat c,mat w,lst szD g]),(0,Bk.none)]);rw[<-hH]at a5 hx1 hs1 hf ⊢;refine cd (args:=[tuV p c w g]) a1 ?_ (by simp[aK,bV,tuV,tuC,mat]);simp(disch:=try exact ae)[hx1];refine cd a2 ?_ (by rfl)
 simp(disch:=try exact ae)[hx1];refine cd (args:=[tpV p c w,lst di x]) a3 ?_ (by simp[aK,bV,tpV,mat]);simp(disch:=try exact ae)[hx1];refine cd a4 ?_ (by rfl);simp(disch:=try exact ae)[hx1];refine oN (gz (e:=0) (b:=.none) a5 hs1 ?_);rw[hf]
 have hln:(pP p.length g (ofQ (cG w x))).length=p.length:=by
  unfold pP;rw[ui (λs hs=>by rw[(ht.gs s hs).1];simp)];simp
 have hfl:(prC (NT p w g x)).length=p.length*2:=by rw[u5,NT,hln]
 simp(disch:=try exact ae);refine⟨ac,?_,.inr (.inr (.inr (.inr (.inl ⟨h.length+1,1,p.length,p.length,2,prC (NT p w g x),true,.int .i64 0,by rfl,Nat.le_succ _,?_,rfl⟩))))⟩
 .simp only[Zb,hu,Yz]
 .simp[aw];rfl
theorem sW{α:Type}(d:α)(m:List α)(h:i<m.length):nth d m i=m[i]:=by rw[nth,Z6,List.getElem?_eq_getElem h];rfl
theorem QT(H:HmF n m):m.length<=n:=by
 obtain⟨L,H⟩:=H
 have:=xN (n:=n) (tU H m.length 0 0 aa (λ_=>Y9 _)) (λx hx=>by
  obtain⟨k,_,hk,rfl⟩:=vj hx;exact H.lt k aa)
 grind[xO]
theorem XV(H:HmF n m):∀r∈m,r.length=n:=λr hr=>by
 obtain⟨L,H⟩:=H;obtain⟨i,hi,rfl⟩:=Zi.1 hr;have:=H.ln i hi
 grind[sW]
theorem aan(hb:BdE E m):∀r∈m,∀z∈r,z.natAbs<=E:=λr hr z hz=>by
 obtain⟨i,hi,rfl⟩:=Zi.1 hr;obtain⟨j,hj,rfl⟩:=Zi.1 hz;have:=hb i j
 grind[sW]
theorem Ae(h1:0<n)(h2:n<=12)(H:HmF n m)(hb:BdE (10^9) m):tg n m:=
 ⟨h1,h2,by have:=QT H;omega,XV H,λr hr z hz=>by have:=aan hb r hr z hz;omega⟩
theorem VL{l:Nat}(h1:∀j,j<l->nth 0 r j=0)(h2:nth 0 r l≠0):piv r=l:=by
 have hl:l<r.length:=Decidable.byContradiction λh=>h2 (by rw[nth,Z6,List.getElem?_eq_none aa];rfl)
 have:r.findIdx? (λn=>n !=0)=some l:=by
  rw[List.findIdx?_eq_some_iff_getElem];refine⟨hl,by grind[sW],λj hj=>?_⟩;rw[<-sW 0 r aa,h1 j hj];simp
 grind[piv,idx]
theorem QW{n:Nat}{m:Mz}{L:Nat->Nat}(H:Hm n n m.length L m):∀(q a:Mz)(b:Int),m=a++q->(∀i,i<m.length->i=a.length->b<L i)->J2 b a q=true
 |[],a,b,e,hb=>rfl
 | r::q,a,b,e,hb=>by
  have hal:a.length<m.length:=by rw[e];simp
  have er:nth [] m a.length=r:=by rw[sW _ _ hal];simp[e]
  have p1:=H.pos a.length hal;have p2:=H.low a.length hal;simp only[eZ,er]at p1 p2;have hp:=VL p2 aa;have hb':=hb a.length hal rfl;simp only[J2,hp,Int.toNat_natCast];rw[if_neg aa,if_neg]
  .refine QW H q (a++[r]) _ (by simp[e]) λi hi he=>?_
   rw[List.length_append,List.length_singleton]at he;subst he;have:=H.inc a.length (a.length+1) aa hi;omega
  .rw[Bool.not_eq_true,List.any_eq_false];intro o ho;obtain⟨j,hj,rfl⟩:=Zi.1 ho;have eo:nth [] m j=a[j]:=by rw[sW _ _ aa];simp[e,List.getElem_append_left hj]
   have:=H.red j a.length hj hal
   grind[upF]
theorem PD{c:Nat}(hc:c<=12):∀{m:Mz},(∀r∈m,r.length=c)->(∀r∈m,∀z∈r,z.natAbs<=1000000000)->GP c m=0
 |[],_,_=>rfl
 | r::q,h1,h2=>by
  have hr:=h1 r ac;simp only[GP];rw[if_neg aa,if_neg aa,if_neg]
  .exact PD hc (λx hx=>h1 x (by grind)) λx hx=>h2 x (by grind)
  .rw[Bool.not_eq_true,List.any_eq_false];intro z hz;have:=h2 r ac z hz
   grind[OI]
theorem Vx(h1:r.length<=64)(h2:∀z∈r,z.natAbs<=1000000000):rcB r=0:=by
 unfold rcB;rw[if_neg];rintro(h|h)
 .omega
 grind[CK]
theorem LO{n:Nat}(hn:n<=64):∀{m:Mz},(∀r∈m,r.length=n)->(∀r∈m,∀z∈r,z.natAbs<=1000000000)->w7 n m=0
 |[],_,_=>rfl
 | r::q,h1,h2=>by
  have hr:=h1 r ac;simp only[w7];rw[Vx aa (h2 r ac),if_neg af,if_neg aa];exact LO hn (λx hx=>h1 x (by grind)) λx hx=>h2 x (by grind)
theorem XD(hn:n<=12)(hm:m.length<=12)(h1:∀r∈m,r.length=n)(h2:∀r∈m,∀z∈r,z.natAbs<=1000000000):lcB n m=0:=by unfold lcB;rw[if_neg aa,if_neg aa];exact LO aa h1 h2
theorem JX(hn:n<=12)(H:HmF n m)(hb:BdE (10^9) m):G2 n m=0:=by
 have hl:=QT H;have hr:=XV H;have hz:=aan hb;have hz':∀r∈m,∀z∈r,z.natAbs<=1000000000:=λr hr z hzz=>hz r hr z hzz
 unfold G2;rw[XD hn aa hr hz',if_neg af,if_pos];unfold hfB
 have t0:tcB m=0:=by
  unfold tcB;rw[if_neg aa];refine PD ?_ (λr hr'=>?_) hz'
  .cases m with
   |nil=>simp[nth]
   |cons x q=>have:=hr x ac;grind[nth]
  .rw[hr r hr'];cases m with
   |nil=>cases hr'
   |cons x q=>have:=hr x ac;grind[nth]
 obtain⟨L,H⟩:=H;rw[t0,QW H m [] (-1) rfl (λi _ _=>by omega)];rfl
def ofN(N:Nat)(r0 o:Nat×Bk)(l:List RwL):Hp:=r0::o::nnQ::loB l::(l.map RwL.k++List.replicate (N-l.length) nnQ)
theorem Jz{N:Nat}{r0:Nat×Bk}{l:List RwL}(h:l.length<=N):(ofN N r0 o l).length=N+4:=by grind[ofN]
theorem Qs{r0:Nat×Bk}{l:List RwL}(h:l.length<=12):ofN 12 r0 o l++List.replicate 14 nnQ=ofN 26 r0 o l:=by simp only[ofN,List.cons_append,List.append_assoc,List.replicate_append_replicate];rw[show 12-l.length+14=26-l.length by omega]
theorem VY{r0:Nat×Bk}{l:List RwL}(h:l.length<=12):(ofN 26 r0 o l).take 16=ofN 12 r0 o l:=by rw[<-Qs h,Yd (by rw[Jz h])]
section
variable{r0:Nat×Bk}(hr0:ax 16 r0.2=true)
include hr0
theorem Qr{N:Nat}{l:List RwL}(ho:ax 16 o.2=true)(hl:∀R∈l,R.s<16):((ofN N r0 o l).all λx=>ax 16 x.2)=true:=by simp only[ofN,List.all_cons,Zb,ho,hr0,Jr,BI,Ye,Yz];exact Bool.and_eq_true_iff.2 ⟨rfl,Mp hl⟩
theorem CN{m:LLQ}(hm:m.length<=12)(hr:∀r∈m,r.length<1000000)(hz:∀r∈m,∀z∈r,-9223372036854775808<z∧z<9223372036854775808)(h0:Hp)(K:KL) :
  ∀(q a:LLQ)(o:Nat×Bk),m=a++q->o=ooF nnQ (lgR true 4 a)->K (.exit 0) [loV 3 (lgR true 4 m)] (ofN 26 r0 (ooF nnQ (lgR true 4 m)) (lgR true 4 m)) ->
  lp (mb (CX Y) 16 (mat m) (I m.length)) [] h0 [loV 3 (lgR true 4 a),I a.length] (ofN 26 r0 o (lgR true 4 a)) K
 | [],a,o,e,hu,hK=>by
  simp only[Zq]at e;subst e;refine aj ?_;simp only[mb];have hlt:¬((m.length:Int)<(m.length:Int)):=aa;simp[hlt]
  grind
 | r::q,a,o,e,hu,hK=>by
  refine aj ?_;have hlt:((a.length:Int)<(m.length:Int)):=by rw[e];simp;omega
  have hl:a.length<m.length:=aa;have hal:a.length<12:=aa;have hrm:r∈m:=by rw[e];simp
  obtain⟨H,hH⟩:=nmQ (ofN 26 r0 o (lgR true 4 a));have i1:ixV H 1 (mat m) (I a.length)=some (.dptr (m.map row) a.length):=by rw[e];exact vr row a r q _ _
  have i2:ld1 H (.dptr (m.map row) a.length)=some (lst di r):=by
   rw[k8 row m _ hl];simp only[e,Zm (Z8 _),Zc,Zh];rfl
  have hlen:H.length=30:=by rw[hH,Jz aX]
  have hu1:(H.all λx=>ax H.length x.2)=true:=by
   rw[hlen];refine ua (b:=16) aa ?_;rw[hH];have hlt16:∀R∈lgR true 4 a,R.s<16:=λR hR=>by have:=FK true 4 a R hR;omega
   exact Qr hr0 (by rw[hu];exact Qk rfl hlt16) hlt16
  rw[<-hH];simp only[mb];simp[hlt,i1,i2]
  have g1:H[a.length+4]?=some nnQ:=by
   rw[hH];simp only[ofN,List.getElem?_cons_succ];rw[List.getElem?_append_right ac,List.getElem?_replicate,if_pos aX]
  refine vT (a.length+4) ?_;refine gz (BR (Rd.data _ r) (hz r hrm) (hr r hrm) hu1) g1 ?_;obtain⟨R,hR⟩:∃R:RwL,R=⟨a.length+4,1,[],[],true,r.length,r⟩:=⟨_,rfl⟩;have v1:V.ref (a.length+4) (0+1) 0 r.length r.length (r.map sI).length=R.v:=by rw[hR];simp[RwL.v,RwL.tot]
  have k1:((0+1,Bk.data 1 (r.map sI) true false):Nat×Bk)=R.k:=by rw[hR];simp[RwL.k]
  have e1:H.set (a.length+4) R.k=r0::o::nnQ::loB (lgR true 4 a)::((lgR true 4 a++[R]).map RwL.k++List.replicate (26-(lgR true 4 a++[R]).length) nnQ):=by
   rw[hH];simp only[ofN,List.set_cons_succ];rw[Y3 _ _ ac];simp only[List.length_map,D4,Zc,X5,List.length_append,List.append_assoc,Zs,Yb,List.length_cons,List.length_nil];rw[show 26-a.length=(26-(a.length+1))+1 by omega,List.replicate_succ,List.set_cons_zero];rfl
  have l2:lgR true 4 (a++[r])=lgR true 4 a++[R]:=by rw[JU,hR]
  rw[v1,k1,e1,<-l2];simp;refine vT 1 ?_;simp;refine JL (e:=o.1) (b:=o.2) rfl (v:=R.v) rfl ?_;simp;refine vT 3 ?_;simp;refine(DZ (l:=lgR true 4 a) (R:=R) aX (by simp[sE,aw]) rfl ?_);rw[<-l2];have ih:=CN hm hr hz h0 K q (a++[r]) (o.1+1,.vars [R.v]) (by simp[e]) (by rw[l2,Ql,hu]) hK
  have e2:((a++[r]).length:Int)=(a.length:Int)+1:=ac;rw[e2]at ih;simp(disch:=try exact ae);refine lo ?_;have e3:26-(lgR true 4 (a++[r])).length=25-a.length:=ac
  grind[ofN.eq_1,dC]
theorem Mm{m:LLQ}(hm:m.length<=12)(hr:∀r∈m,r.length<1000000)(hz:∀r∈m,∀z∈r,-9223372036854775808<z∧z<9223372036854775808):
  CI Y F.cL [mat m] (ofN 12 r0 nnQ []) (loV 3 (lgR true 4 m)) (ofN 12 r0 (ooF nnQ (lgR true 4 m)) (lgR true 4 m)):=by
 refine Al ?_;have hl:(ofN 12 r0 nnQ []).length=16:=rfl;have l1:aO (mat m)=some (I m.length):=rfl;have hlt16:∀R∈lgR true 4 m,R.s<16:=λR hR=>by have:=FK true 4 m R hR;omega
 rw[hl];simp only[cL];rw[Qs ac];simp[l1];refine lo (CN hr0 hm hr hz _ _ m [] nnQ rfl rfl ?_);simp;refine⟨by rw[VY aX],Qr hr0 (Qk rfl hlt16) hlt16,.inl ⟨rfl,?_⟩⟩;unfold loV;split
 .rfl
 rfl
end
theorem N4{so eo o:Nat}{m:List RwL}(hs:h[so]?=some (eo,.vars (m.map RwL.v)))(hr:∀R∈m,L6 h R)(hc:∀R∈m,R.r.length<=R.cap)(h0:m≠[])(ho:o<=m.length):
  ∃h1,bV h (.ref so eo 0 o m.length m.length)=some (vi ((m.map RwL.r).take o),h1)∧∀(s e:Nat)(vs:LwQ),s≠so->h[s]?=some (e,Bk.vars vs)->h1[s]?=some (e,Bk.vars vs):=by
 obtain⟨h1,e1,v1⟩:=Jc m h hr hc;have g1:=v1 _ _ _ hs;have g0:aw h so eo=.vars (m.map RwL.v):=by simp[aw,hs]
 have hd:Kc (m.map RwL.v)=none:=by
  cases m with
  |nil=>trivial
  |cons R m=>rfl
 refine⟨bL h1 so eo (.data 1 (m.map λR=>tP R.r) false true),?_,λs e vs hne hg=>?_⟩
 .have t1:toD h (.ref so eo 0 o m.length m.length)=none:=by simp[toD,g0,hd]
  have t2:NO h (.ref so eo 0 o m.length m.length)=some (.sl o ((m.map λR=>tP R.r).take o),bL h1 so eo (.data 1 (m.map λR=>tP R.r) false true)):=by
   simp only[NO,g0,e1];have:aw h1 so eo=.vars (m.map RwL.v):=by simp[aw,g1]
   simp only[this];rw[if_pos (by grind)];simp
  simp_all[bV,vi,lst,Function.comp_def]
 grind[bL.eq_1]
theorem aen{n Bd f o':Nat}{m z':Mz}(hB:Bd<=100000)(h0:0<n)(hn:n<=12)(hl:lcB n m=0)(hm:m.length<=12)(hr:∀r∈m,r.length=n)(hz:∀r∈m,∀z∈r,-9223372036854775808<z∧z<9223372036854775808)
  (hf:rK Bd f n m=some (o',z')) (ho:tg n (z'.take o')):CP Y F.qy [I n,mat m] (.tup [qX n (z'.take o'),I 0]):=by
 refine JY ?_;simp only[qy];simp;have hrl:∀r∈m,r.length<1000000:=λr hr'=>by grind
 have ck:=Ip (n:=n) (m:=m) aa hrl;rw[hl]at ck;refine cd ck ?_ (by rfl);obtain⟨r0,hr0⟩:∃r0:Nat×Bk,r0=(1,.vars [I 0,nlV]):=⟨_,rfl⟩;have u0:ax 16 r0.2=true:=by rw[hr0];rfl
 have hH:([(1,Bk.vars [V.d (D.int IntKind.i64 0),V.d nPQ]),(0,Bk.none),(0,Bk.none),(0,Bk.none),(0,Bk.none),(0,Bk.none),(0,Bk.none),(0,Bk.none),(0,Bk.none),(0,Bk.none),(0,Bk.none),(0,Bk.none),(0,Bk.none),(0,Bk.none),(0,Bk.none),(0,Bk.none)]:Hp)=ofN 12 r0 nnQ []:=by rw[hr0];rfl
 have c1:=Mm u0 hm hrl hz;have ok1:okV (mat (z'.take o'))=true:=rfl;have c3:=y9 (m:=z'.take o') (n:=n) (by grind[tg.ml]) (λr hr'=>by grind[tg.rl]) ho.sm;simp;rw[hH];by_cases hm0:m=[]
 .subst hm0
  have hz0:z'=[]:=by
   have hfm:=(D9 (n:=n) (λi hi=>by simp at hi) hf).2.2;exact Zl hfm
  subst hz0;rw[List.take_nil]at c3 ⊢;have c1':CI Y F.cL [mat []] (ofN 12 r0 nnQ []) nlV (ofN 12 r0 nnQ []):=c1;refine gP c1' ?_ ac;refine gP (Il (h:=ofN 12 r0 nnQ []) (n:=n) ?_) ?_ ac
  .exact Qr (N:=12) u0 rfl (λR hR=>by cases hR)
  refine tc (ds:=[vi [],I n]) (h':=ofN 12 r0 nnQ []) rfl c3 ?_;rw[hr0];simp[qX,ok1];exact⟨_,by rfl⟩
 .obtain⟨l,hll⟩:=nmQ (lgR true 4 m);have hln:l.length=m.length:=by rw[hll];simp
  have hl0:l≠[]:=λe=>hm0 (by grind)
  have hlr:l.map RwL.r=m:=by rw[hll,WT]
  have hnth:∀i,i<l.length->nth RwL.z l i=⟨i+4,1,[],[],true,(nth [] m i).length,nth [] m i⟩:=λi hi=>by rw[hll,JS true 4 _ i aa]
  have hnl:∀i,i<l.length->(nth [] m i).length=n:=λi hi=>by rw[sW _ _ aa];grind
  obtain⟨o,hoo⟩:=nmQ (ooF nnQ l)
  have uo:ax 16 o.2=true:=by
   rw[hoo];exact Qk rfl λR hR=>by rw[hll]at hR;have:=FK true 4 m R hR;omega
  rw[<-hll,<-hoo]at c1;obtain⟨H,hHe⟩:=nmQ (ofN 12 r0 o l);have hHl:H.length=16:=by rw[hHe,Jz aa]
  have T:Tr H.length H H 3 l.length n l:=by
   refine⟨?_,λi hi=>?_,λi j hi hj hij=>?_,λi hi=>?_,λi hi=>?_,λ_ _ _=>rfl,aa,λi hi=>?_,?_,Z8 _,λs h1 h2=>by omega⟩
   .grind[ofN,loB]
   .have h5:=D5 true m 4 [r0,o,nnQ,loB l] (List.replicate (12-l.length) nnQ) rfl (nR l i) (by grind[yY]);rw[<-hll]at h5;rw[hHe];exact h5
   .grind
   .grind
   .grind
   .grind
   .rw[hHl,hHe];exact Qr u0 uo λR hR=>by rw[hll]at hR;have:=FK true 4 m R hR;omega
  obtain⟨m1,f1,f2⟩:=J4 (hlr.symm▸hf);obtain⟨⟨⟨h1,T1,e1⟩,hQ⟩,q1,q2⟩:=Gi (Q:=λR=>n<=R.cap∧4<=R.s) (λ_ _ h=>h) T (λi hi=>by rw[nR,hnth i hi];exact⟨by grind,ac⟩) f1;have fo:=FL hB aa aa (Z8 _) T f1 T1 e1;have lv:loV 3 l=.ref 3 l.length 0 l.length l.length l.length:=by rw[loV,if_neg hl0]
  rw[lv,<-hHe]at c1;refine gP c1 ?_ ac;refine gP fo ?_ ac;have hm1:m1≠[]:=λe=>hl0 (by grind)
  have g0:h1[0]?=some (1,.vars [I 0,nlV]):=by
   rw[T1.fr 0 aa (λi hi=>by grind),hHe,hr0];rfl
  have T1o:=T1.o;rw[<-q2]at T1o ⊢
  obtain ⟨h3,e3,v3⟩:=N4 (o:=o') T1o (λR hR=>by
   obtain⟨i,hi,rfl⟩:=BN hR;exact⟨false,T1.r i hi⟩) (λR hR=>by
   grind[BN,Tr.ln]) hm1 aa
  rw[f2]at e3;have g3:=v3 0 1 _ aa g0
  have hs3:∀c w:V,okV c=true->okV w=true->st h3 2 (.ptr 0 1 0 2) (.agg [c,w])=some (h3.set 0 (1,.vars [c,w])):=λc w hc hw=>by
   grind[st,sto,aw,bL]
  have h3l:0<h3.length:=(List.getElem?_eq_some_iff.1 g3).1
  have hl3:∀c w:V,ldA (h3.set 0 (1,.vars [c,w])) 2 (.ptr 0 1 0 2)=some (.agg [c,w]):=λc w=>by
   simp[ldA,aw,List.getElem?_set_self h3l]
  have sI:∀h:Hp,bV h (I n)=some (I n,h):=λh=>rfl
  refine tc (ds:=[vi (z'.take o'),I n]) (h':=h3) (by grind[aK]) c3 ?_;have okI:okV (I (n:Int))=true:=rfl;have hs4:=hs3 (I n) (mat (z'.take o')) rfl ok1;have hl4:=hl3 (I n) (mat (z'.take o'));rw[show(if cu (V.tup [qX n (z'.take o'),I 0])=true then h1 else h3)=h3 from rfl];simp only[qX];simp[hs4,hl4];exact⟨_,by rfl⟩
abbrev I4:=Int×Int×Int×Int
def i4D(x:I4):LdQ:=[.int .i8 x.1,.int .i8 x.2.1,.int .i8 x.2.2.1,.int .i8 x.2.2.2]
theorem QR(x:I4):(i4D x).length=4:=rfl
def i4L(x:I4):LiQ:=[x.1,x.2.1,x.2.2.1,x.2.2.2]
def ok4(x:I4):Prop:=(-128<=x.1∧x.1<=127)∧(-128<=x.2.1∧x.2.1<=127)∧(-128<=x.2.2.1∧x.2.2.1<=127)∧(-128<=x.2.2.2∧x.2.2.2<=127)
def mkI(p:LiQ)(x:I4):Rw:=itv p.length (i4L x)
theorem O5{p:LiQ}{g w c:Mz}(hp:pcB p=0)(h0:0<p.length)(h4:p.length<=4)(hm:m.length<=3)(hr:∀r∈m,r.length=p.length)(hz:∀r∈m,∀z∈r,z.natAbs<=9)(hE:E<=10^9)(R:ae6 E p.length m g w c f)(vals:Bool):
  CP Y F.gJ [lst di p,mat m,B vals] (.tup [tpV p (if vals=true then w else c) (if vals=true then c else w),I 0]):=by
 refine w5 ?_;obtain⟨o,g',hf,hg⟩:=R.g0;have lg:tg p.length g:=Ae h0 aa R.hg R.bg;have lw:tg p.length w:=Ae h0 aa R.hw (R.bw.mono hE);have lc:tg p.length c:=Ae h0 aa R.hc (R.bc.mono af)
 have c1:=aen (n:=p.length) (m:=m) (Z8 100000) h0 aa (XD aa aa hr λr hr' z hz'=>by grind) aa hr (λr hr' z hz'=>by grind) hf (by grind);rw[hg]at c1;have hlc:=JX aa R.hg R.bg;have c2:=QB (Z8 100000) hlc lg R.gw lw.rl (by grind[tg.ml]) R.wc lc;have c3:=QN (Z8 100000) hlc lg R.gw lw
 have cp:=mG (p:=p) aa;rw[hp]at cp;have l1:aO (lst di p)=some (I p.length):=rfl;have ok1:∀m:Mz,okV (mat m)=true:=λ_=>rfl
 have ok2:okV (lst di p)=true:=rfl;simp only[qX]at c1 c2 c3;simp only[gJ];simp;refine cd cp ?_;simp[l1];refine cd c1 ?_ (by rfl);simp[ok1];refine cd c2 ?_ (by rfl);simp[ok1];refine cd c3 ?_ (by rfl);simp[ok1];cases vals with
 | false=>
  refine aM ?_;simp[ok1,ok2];exact⟨_,by rfl⟩
 | true=>
  refine aM ?_;simp[ok1,ok2];exact⟨_,by rfl⟩
theorem WB{p:LiQ}{e:List I4}{kk:Nat}{vals:Bool}(he:e.length<=3)(hb:∀x∈e,ok4 x)(hp:p.length<=4)(b1 b3:Nat×Bk)(h0:Hp)(K:KL):∀(q a:List I4),e=a++q ->
  K (.exit 0) [(acU 2).v e.length (e.map λx=>row (mkI p x))] [(1,.vars [.d (.int .u8 kk),iQ i4D e,B vals]),b1,(acU 2).b e.length (e.map λx=>row (mkI p x)),b3] ->
  lp (jZ (CX Y) (.ptr 0 1 0 3) (lst di p)) [] h0 [(acU 2).v a.length (a.map λx=>row (mkI p x)),I a.length] [(1,.vars [.d (.int .u8 kk),iQ i4D e,B vals]),b1,(acU 2).b a.length (a.map λx=>row (mkI p x)),b3] K
 | [],a,e1,hK=>by
  simp only[Zq]at e1;subst e1;refine aj ?_;have hlt:¬((e.length:Int)<(e.length:Int)):=aa;have l1:aO (iQ i4D e)=some (I e.length):=rfl;simp only[jZ];simp[hlt,l1];exact hK
 | x::q,a,e1,hK=>by
  refine aj ?_;have hlt:((a.length:Int)<(e.length:Int)):=by rw[e1];simp;omega
  have h3:((a.length:Int)<3):=aa;have hal:a.length<e.length:=aa;have hx2:nth (0,0,0,0) e a.length=x:=by rw[sW _ _ hal];simp[e1]
  have hm:=hb x (by grind);have io:CP Y F.dL [lst di p,.agg [i8V x.1,i8V x.2.1,i8V x.2.2.1,i8V x.2.2.2]] (lst di (mkI p x)):=NB hm.1 hm.2.1 hm.2.2.1 hm.2.2.2 hp;have l1:aO (iQ i4D e)=some (I e.length):=rfl;have i1:=λh=>m9 i4D QR e h (k:=.i64) (i:=(a.length:Int)) aa aa
  have i2:=λh=>oi i4D QR (0,0,0,0) e h (j:=a.length) hal
  rw[hx2]at i2;simp only[Int.toNat_natCast]at i1;have i2':∀h,ldA h 4 (.dptr (e.flatMap i4D) (a.length*4))=some (.agg [i8V x.1,i8V x.2.1,i8V x.2.2.1,i8V x.2.2.2]):=i2;obtain⟨H,hH⟩:∃H:Hp,H=[(1,.vars [.d (.int .u8 kk),iQ i4D e,B vals]),b1,(acU 2).b a.length (a.map λx=>row (mkI p x)),b3]:=⟨_,rfl⟩;have g1:lO H 0 1=.vars [.d (.int .u8 kk),iQ i4D e,B vals]:=by rw[hH];rfl
  have li1:eC 1 [nPQ] [(0,lst di (mkI p x))] H=some ([row (mkI p x)],H):=Mw ..;have sn:aK H [lst di p,.agg [i8V x.1,i8V x.2.1,i8V x.2.2.1,i8V x.2.2.2]]=some ([lst di p,.agg [i8V x.1,i8V x.2.1,i8V x.2.2.1,i8V x.2.2.2]],H):=by simp[aK,bV,i8V]
  rw[<-hH];simp only[jZ];simp[hlt,h3,l1,g1,i1,i2'];refine cd io ?_ sn;simp[li1];refine nm (acU 2) (by_:=24) (k:=1) (cs:=[row (mkI p x)]) aa (by rw[hH];rfl) (by simp[acU]) (by rfl) rfl (by grind) aa (by simp[acU]) ?_
  have hs:H.set (acU 2).s ((acU 2).b (a.length+1) ((a.map λx=>row (mkI p x))++[row (mkI p x)]))=[(1,.vars [.d (.int .u8 kk),iQ i4D e,B vals]),b1,(acU 2).b (a.length+1) ((a.map λx=>row (mkI p x))++[row (mkI p x)]),b3]:=by rw[hH];rfl
  rw[hs];have ih:=WB (kk:=kk) (vals:=vals) he hb hp b1 b3 h0 K q (a++[x]) (by grind) hK;have e4:((a++[x]).length:Int)=(a.length:Int)+1:=ac;rw[e4,X5,List.length_append]at ih;simp(disch:=try exact ae)
  simp_all[dC]
theorem SS{k:Nat}{e:List I4}{vals:Bool}{E:Nat}{g w c:Mz}{f:Nat}(hk:k<256)(he:e.length<=3)(hb:∀x∈e,ok4 x)(hE:E<=10^9)(R:ae6 E (m6 k).length (e.map (mkI (m6 k))) g w c f) :
  CP Y F.fT [.agg [.d (.int .u8 k),iQ i4D e,B vals]] (tpV (m6 k) (if vals=true then w else c) (if vals=true then c else w)):=by
 refine yg ?_;obtain⟨p1,p2,p3,p4,p5⟩:=VJ _ (BD k);obtain⟨p,hp⟩:=nmQ (m6 k);have pk:=LW hk;rw[<-hp]at p1 p2 p3 p4 p5 R pk ⊢
 have bu:=O5 p1 p3 p4 (by grind) (λr hr=>by
  obtain⟨x,_,rfl⟩:=Zw.1 hr
  grind[mkI,itv,i4L]) (λr hr z hz=>by
  grind[mkI,itv]) hE R vals
 obtain⟨C,hC⟩:=nmQ (if vals=true then w else c)
 obtain⟨W,hW⟩:=nmQ (if vals=true then c else w)
 rw[<-hC,<-hW]at bu ⊢;have em:mat (e.map (mkI p))=.d (.sl e.length (e.map λx=>row (mkI p x))):=by simp[lst,Function.comp_def]
 have ok1:∀m:Mz,okV (mat m)=true:=λ_=>rfl
 have ok2:okV (lst di p)=true:=rfl;have ok3:okV (iQ i4D e)=true:=rfl;simp only[tpV]at bu;simp only[fT];simp[ok3];refine cd pk ?_;simp;refine lo (WB (kk:=k) (vals:=vals) he hb p4 _ _ _ _ e [] rfl ?_);simp
 obtain⟨h',e1,hh⟩:=oV (acU 2) (L:=e.length) (cells:=e.map λx=>row (mkI p x)) (h:=[(1,.vars [.d (.int .u8 k),iQ i4D e,B vals]),(1,.vars [.d nPQ,.d nPQ,.d nPQ]),(acU 2).b e.length (e.map λx=>row (mkI p x)),nnQ]) rfl (by simp[acU])
 obtain ⟨x,hx⟩:∃x,h'=[(1,.vars [.d (.int .u8 k),iQ i4D e,B vals]),(1,.vars [.d nPQ,.d nPQ,.d nPQ]),x,nnQ]:=by
  rcases hh with⟨_,hh⟩|⟨_,hh⟩
  .grind
  .exact⟨_,hh⟩
 rw[<-em]at e1;have sp:∀h:Hp,bV h (lst di p)=some (lst di p,h):=λh=>rfl
 have sb:∀h:Hp,bV h (B vals)=some (B vals,h):=λh=>rfl
 refine tc (ds:=[lst di p,mat (e.map (mkI p)),B vals]) (h':=h') (by simp_all[aK]) bu ?_;rw[show ∀h:Hp,(if cu (V.tup [V.agg [lst di p,mat C,mat W],I 0])=true then h else h')=h' from λ_=>rfl,hx];simp[ok1,ok2];exact⟨_,by rfl⟩
structure ait(p:LiQ)(C W:Mz):Prop where
 t:rY p C W
 hw:HmF p.length W
 hc:HmF p.length C
 bw:W.length=2->BdE 157464 W
theorem b6(hE6:10^6<=E)(hE:E<=10^9)(h1:∀m:Mz,m.length<=3->BdE 9 m->se E m){e:List I4}(hk:k<256)(he:e.length<=3)(hb:∀x∈e,ok4 x):
  ∃C W,CP Y F.fT [.agg [.d (.int .u8 k),iQ i4D e,B vals]] (tpV (m6 k) C W)∧ait (m6 k) C W∧BdE E W:=by
 obtain⟨p1,p2,p3,p4,p5⟩:=VJ _ (BD k);have hlen:∀y:I4,(mkI (m6 k) y).length=(m6 k).length:=λy=>by grind[mkI,itv,i4L]
 have hsm:∀(y:I4),∀z∈mkI (m6 k) y,z.natAbs<=9:=λy z hz=>by
  grind[mkI,itv]
 have bd:BdE 9 (e.map (mkI (m6 k))):=λi j=>by
  by_cases hi:i<(e.map (mkI (m6 k))).length
  .by_cases hj:j<(m6 k).length
   .have hel:nth [] (e.map (mkI (m6 k))) i=mkI (m6 k) (e[i]'(by grind)):=by rw[sW _ _ hi,List.getElem_map]
    grind[og]
   .rw[T6 (n:=(m6 k).length) (λi hi=>by grind[sW]) aa];simp
  .rw[uz aa];simp
 obtain ⟨g,w,c,f,R⟩:=abF (n:=(m6 k).length) (m:=e.map (mkI (m6 k))) hE6 hE (h1 _ (by simpa using he) bd) p4 (by grind) (λi hi=>by
  grind[sW]) bd
 have lw:tg (m6 k).length w:=Ae p3 aa R.hw (R.bw.mono hE);have lc:tg (m6 k).length c:=Ae p3 aa R.hc (R.bc.mono af);refine⟨_,_,SS (vals:=vals) hk he hb hE R,?_⟩;cases vals with
 |false=>exact⟨⟨⟨p1,lc,lw,JX aa R.hc (R.bc.mono af),100000,f,Z8 _,R.cw,R.wc⟩,R.hw,R.hc,R.sw⟩,R.bw⟩
 |true=>exact⟨⟨⟨p1,lw,lc,JX aa R.hw (R.bw.mono hE),100000,f,Z8 _,R.wc,R.cw⟩,R.hc,R.hw,R.sc⟩,R.bc.mono hE6⟩
theorem ad5{e:List I4}(hk:k<256)(he:e.length<=3)(hb:∀x∈e,ok4 x):
  ∃C W,CP Y F.fT [.agg [.d (.int .u8 k),iQ i4D e,B vals]] (tpV (m6 k) C W)∧ait (m6 k) C W:=by obtain⟨C,W,h1,h2,_⟩:=b6 (vals:=vals) (E:=10^9) af af (λ_ _=>Es) hk he hb;exact⟨C,W,h1,h2⟩
theorem KW{w:Int}(hz:ndg z.natAbs<1000000)(hw:ndg w.natAbs<1000000):CP Y F.fR [S (itoa z),S (itoa w)] (I (sgn (z-w))):=by
 refine vL ?_;simp[fR];refine cd (qO z) ?_;simp;refine cd (qO w) ?_;by_cases h:sgn z=sgn w
 .have sz:=sJ (itoa z);have sw:=sJ (itoa w);rw[pX,xk]at sz sw;simp[h];refine cd sz ?_;simp;refine cd sw ?_;simp;by_cases g:z<0
  .have g2:w<0:=by unfold sgn at h;split at h<;>split at h<;>first|omega|(split at h<;>first|omega|(split at h<;>omega))
   have e:Big.cmp w.natAbs z.natAbs=sgn (z-w):=by
    unfold Big.cmp sgn;split<;>split<;>first|omega|(split<;>omega)
   refine aM ?_;simp(disch:=try exact ae)[g];refine cd (sk hw hz) ?_;exact aW e
  .have g2:¬w<0:=by unfold sgn at h;split at h<;>split at h<;>first|omega|(split at h<;>first|omega|(split at h<;>omega))
   have e:Big.cmp z.natAbs w.natAbs=sgn (z-w):=by
    unfold Big.cmp sgn;split<;>split<;>first|omega|(split<;>omega)
   refine aM ?_;simp(disch:=try exact ae)[g];refine cd (sk hz hw) ?_;exact aW e
 .simp[h];by_cases g:sgn z<sgn w
  ·have e:(-1:Int)=sgn (z-w):=by
    revert g;unfold sgn
    split<;>split<;>(try split)<;>(try split)<;>(try split)<;>omega
   simp[g];exact aW e
  ·have e:(1:Int)=sgn (z-w):=by
    revert g h;unfold sgn
    split<;>split<;>(try split)<;>(try split)<;>(try split)<;>omega
   simp[g];exact aW e
theorem PO{d:Nat}(h:0<d):sgn (z*d)=sgn z:=by
 have hd:(0:Int)<d:=aa;unfold sgn;by_cases h0:z=0
 .simp[h0]
 ·have h1:¬z*(d:Int)=0:=λe=>by
   rcases Int.mul_eq_zero.1 e with e|e<;>omega
  rw[if_neg h0,if_neg h1];by_cases h2:z<0
  .rw[if_pos h2,if_pos (Int.mul_neg_of_neg_of_pos h2 hd)]
  .rw[if_neg h2,if_neg (by have:=Int.mul_pos (show 0<z by omega) hd;omega)]
theorem Gf{a b:Q}(ha:okQ a)(hb:okQ b)(la:qL 100000 a)(lb:qL 100000 b):CP Y F.fI [.agg (qT a),.agg (qT b)] (I (sgn (a.1*b.2-b.1*a.2))):=by
 refine zj ?_;have b1:=uK a;have b2:=uK b;have la1:=la.1;have la2:=la.2;have lb1:=lb.1;have lb2:=lb.2;have w1:=KW (z:=a.1) (w:=b.1) aa aa;have m1:=pL (z:=a.1) (w:=(b.2:Int)) aa (by rw[Int.natAbs_natCast];omega);have m2:=pL (z:=b.1) (w:=(a.2:Int)) aa (by rw[Int.natAbs_natCast];omega);rw[jE]at m1 m2
 have big:∀(z:Int)(n:Nat),ndg z.natAbs<=100000->ndg n<=100000->ndg (z*n).natAbs<1000000:=λz n h1 h2=>by
  have h3:=Yo (cQ z.natAbs) (cQ n);rw[<-X7]at h3;have e:(z*(n:Int)).natAbs=z.natAbs*n:=by rw[Y7,Int.natAbs_natCast]
  rw[<-e]at h3;have h4:=gK (d:=ndg z.natAbs+ndg n+1) (Z3 h3 (Zz af aa)) aa;omega
 have w2:=KW (z:=a.1*b.2) (w:=b.1*a.2) (big _ _ la1 lb2) (big _ _ lb1 la2);simp[fI,qT];refine cd (args:=[.agg (qT a)]) b1 ?_ (by rfl);by_cases h1:sdg a.1<=9∧ndg a.2<=9
 .simp[h1.1,h1.2];refine aM ?_;simp;refine cd (args:=[.agg (qT b)]) b2 ?_ (by rfl);by_cases h2:sdg b.1<=9∧ndg b.2<=9
  ·have sm:∀(z:Int)(n:Nat),sdg z<=9->ndg n<=9->(z*n).natAbs<10^18:=λz n h1 h2=>by
    have h3:=Yo (rR h1) (Z3 (cQ n) (Zz af h2));rw[Y7,Int.natAbs_natCast];exact Z3 h3 af
   have s1:=sm a.1 b.2 h1.1 h2.2;have s2:=sm b.1 a.2 h2.1 h1.2;simp[h2.1,h2.2];generalize a.1*(b.2:Int)=x at *;generalize b.1*(a.2:Int)=y at *;have wx:IntKind.wrap .i64 x=x:=wrap_i64 ⟨aa,aa⟩;have wy:IntKind.wrap .i64 y=y:=wrap_i64 ⟨aa,aa⟩;rw[wx,wy];refine IN (λg=>?_) (λg=>?_)
   .exact aW (by unfold sgn;rw[if_neg aa,if_pos aa])
   .simp[wx,wy];refine IN (λg2=>?_) (λg2=>?_)
    .exact aW (by unfold sgn;rw[if_neg aa,if_neg aa])
    .exact aW (by unfold sgn;rw[if_pos aa])
  .have h2':(decide (sdg b.1<=9)&&decide (ndg b.2<=9))=false:=by grind
   simp[h2',-Bool.decide_and];by_cases e:a.2=b.2
   .have es:sgn (a.1*b.2-b.1*a.2)=sgn (a.1-b.1):=by rw[e,<-Int.sub_mul,PO hb.1]
    have e2:ah a.2=ah b.2:=by rw[e]
    simp(disch:=try exact ae)[e2];refine cd w1 ?_;exact aW es.symm
   .have e2:¬ah a.2=ah b.2:=λh=>e (om h)
    simp(disch:=try exact ae)[e2];refine cd m1 ?_;simp(disch:=try exact ae);refine cd m2 ?_;simp(disch:=try exact ae);refine cd w2 ?_;exact aW rfl
 .have h1':(decide (sdg a.1<=9)&&decide (ndg a.2<=9))=false:=by grind
  .simp[h1',-Bool.decide_and];refine aM ?_;simp;by_cases e:a.2=b.2
   .have es:sgn (a.1*b.2-b.1*a.2)=sgn (a.1-b.1):=by rw[e,<-Int.sub_mul,PO hb.1]
    have e2:ah a.2=ah b.2:=by rw[e]
    simp(disch:=try exact ae)[e2];refine cd w1 ?_;exact aW es.symm
   .have e2:¬ah a.2=ah b.2:=λh=>e (om h)
    simp(disch:=try exact ae)[e2];refine cd m1 ?_;simp(disch:=try exact ae);refine cd m2 ?_;simp(disch:=try exact ae);refine cd w2 ?_;exact aW rfl
structure EnS where
 lo:Option Q
 hi:Option Q
 em:Bool
def oT:Option Q->LwQ
 |some q=>qT q
 |none=>[S [],S []]
def enC(s:EnS):LwQ:=oT s.lo++oT s.hi++[B s.lo.isSome,B s.hi.isSome,B s.em]
def okE(s:EnS):Prop:=(∀q,s.lo=some q->okQ q∧qL 1000 q)∧∀q,s.hi=some q->okQ q∧qL 1000 q
def Km(a b:Q):Int:=sgn (a.1*b.2-b.1*a.2)
def As(s:EnS)(b:Int)(k:Q):EnS:=
 if b>0 then(match s.lo with
  |none=>{s with lo:=some k}
  |some q=>if Km k q>0 then{s with lo:=some k}else s)
 else (match s.hi with
  |none=>{s with hi:=some k}
  |some q=>if Km k q<0 then{s with hi:=some k}else s)
def oR(s:EnS)(a b div:Int):EnS:=if b=0 then{s with em:=s.em||decide (a<0)}else As s b (uZ (eU (-a) div) (b,1))
theorem DN(k:Q):oT (some k)=[S (itoa k.1),S (ah k.2)]:=rfl
theorem BH(o:Option Q):∃x y:LuQ,oT o=[S x,S y]:=by
 cases o with
 |none=>exact⟨_,_,rfl⟩
 |some q=>exact⟨_,_,rfl⟩
def kpH(x0 x1 x3:Nat×Bk)(e:Nat)(st:EnS):Hp:=[x0,x1,(e,.vars (enC st)),x3]
variable{x0 x1 x3:Nat×Bk}{e:Nat}
theorem xj{st':EnS}(hu0:ax 4 x0.2=true)(hu1:ax 4 x1.2=true)(hu3:ax 4 x3.2=true)(hst:enC st'=cs):mi 4 (.tup []) (kpH x0 x1 x3 e st') (.tup []) (x0::x1::(e,.vars cs)::x3::t):=by
 subst hst;obtain⟨lo,hi,em⟩:=st';obtain⟨a1,a2,ha⟩:=BH lo;obtain⟨b1,b2,hb⟩:=BH hi;refine⟨rfl,?_,.inl ⟨rfl,rfl⟩⟩;have h2:ax 4 (.vars (enC ⟨lo,hi,em⟩))=true:=by simp[enC,ha,hb,ax,ju,under]
 grind[kpH]
theorem abI{st:EnS}{a b div:Int}(hst:okE st)(ha : -2000000000<=a∧a<=2000000000)(hb : -2000000000<=b∧b<=2000000000)(hd:div≠0)(hdb : -1000000000<=div∧div<=1000000000)
  (hu0:ax 4 x0.2=true) (hu1:ax 4 x1.2=true) (hu3:ax 4 x3.2=true):CI Y F.fw [.ptr 2 e 0 7,I a,I b,I div] (kpH x0 x1 x3 e st) (.tup []) (kpH x0 x1 x3 e (oR st a b div)):=by
 refine wJ ?_;obtain⟨E0,B0⟩:=x0;obtain⟨E1,B1⟩:=x1;obtain⟨E3,B3⟩:=x3;obtain⟨lo,hi,em⟩:=st;obtain⟨x1,x2,hx⟩:=BH lo;obtain⟨y1,y2,hy⟩:=BH hi;have hE:enC ⟨lo,hi,em⟩=[S x1,S x2,S y1,S y2,B lo.isSome,B hi.isSome,B em]:=by simp[enC,hx,hy]
 have hK:kpH (E0,B0) (E1,B1) (E3,B3) e ⟨lo,hi,em⟩=[(E0,B0),(E1,B1),(e,.vars [S x1,S x2,S y1,S y2,B lo.isSome,B hi.isSome,B em]),(E3,B3)]:=by rw[kpH,hE]
 rw[hK];simp only[fw];by_cases b0:b=0
 .subst b0;cases em with
  | true=>
   simp
   grind[xj,oR]
  | false=>
   simp
   grind[xj,enC,oR]
 .have f1:=uD (n:=-a) (d:=div) hd aa aa aa aa
  have f2:CP Y F.d7 [I b,I 1] (.tup [.agg (qT (b,1)),I 0]):=by
   have:=uD (n:=b) (d:=1) af aa aa af af
   rwa [FB]at this
  have lz:=oZ (n:=-a) hd;have lL:qL 30 (eU (-a) div):=FC (Zy (rU aa aa) af) (Zy (rU aa aa) af);have o2:=Fu b aa aa;have f3:=MQ lz o2.1 aa (lL.mono aa) (o2.2.mono aa);have kO:okQ (uZ (eU (-a) div) (b,1)):=P8 lz aa
  have kL:qL 1000 (uZ (eU (-a) div) (b,1)):=(VA lL o2.2).mono aa;obtain⟨k,hk⟩:=nmQ (uZ (eU (-a) div) (b,1))
  have hkf:oR ⟨lo,hi,em⟩ a b div=As ⟨lo,hi,em⟩ b k:=by
   simp only[oR,if_neg b0,hk]
  rw[<-hk]at f3 kO kL;rw[hkf];generalize eU (-a) div=w1 at *;simp only[qT]at f1 f2 f3;simp(disch:=try exact ae)[b0];refine cd f1 ?_;simp;refine cd f2 ?_ (by rfl);simp;refine cd f3 ?_ (by rfl);simp;refine aM ?_;by_cases bp:b>0
  .cases lo with
   | none=>
    simp[bp];refine aM ?_;simp
    grind[xj,As,enC,DN]
   | some q=>
    have q1:=hst.1 q rfl;have cm:=Gf kO q1.1 (kL.mono aa) (q1.2.mono aa);simp only[qT]at cm;simp only[oT,qT,List.cons.injEq,V.d.injEq,D.str.injEq,and_true]at hx;obtain⟨rfl,rfl⟩:=hx;simp[bp];refine cd cm ?_ (by rfl);by_cases cp:sgn (k.1*q.2-q.1*k.2)>0
    .simp[cp];refine aM ?_;simp
     grind[xj,As,enC,DN,Km]
    .have bn:¬b<0:=aa;simp[cp,bn];refine aM ?_;simp[bn];refine aM ?_;simp
     grind[xj,As,Km]
  .have bn:b<0:=aa;cases hi with
   | none=>
    simp[bp,bn];refine aM ?_;simp[bn];refine aM ?_;simp
    grind[xj,As,enC,DN]
   | some q=>
    have q1:=hst.2 q rfl;have cm:=Gf kO q1.1 (kL.mono aa) (q1.2.mono aa);simp only[qT]at cm;simp only[oT,qT,List.cons.injEq,V.d.injEq,D.str.injEq,and_true]at hy;obtain⟨rfl,rfl⟩:=hy;simp[bp];refine aM ?_;simp[bn];refine cd cm ?_ (by rfl);by_cases cp:sgn (k.1*q.2-q.1*k.2)<0
    .simp[cp];refine aM ?_;simp
     grind[xj,As,enC,DN,Km]
    .simp[cp];refine aM ?_;simp
     grind[xj,As,Km]
theorem XN{st:EnS}{a b:Int}(hst:okE st)(ha : -2000000000<=a∧a<=2000000000)(hb : -2000000000<=b∧b<=2000000000)(hd:div≠0)(hdb : -1000000000<=div∧div<=1000000000):okE (oR st a b div):=by
 unfold oR;by_cases b0:b=0
 .rw[if_pos b0];exact hst
 .rw[if_neg b0];have lz:=oZ (n:=-a) hd;have lL:qL 30 (eU (-a) div):=FC (Zy (rU aa aa) af) (Zy (rU aa aa) af);have o2:=Fu b aa aa;have kO:okQ (uZ (eU (-a) div) (b,1)):=P8 lz aa;have kL:qL 1000 (uZ (eU (-a) div) (b,1)):=(VA lL o2.2).mono aa
  generalize uZ (eU (-a) div) (b,1)=k at *;unfold As;obtain⟨h1,h2⟩:=hst;obtain⟨lo,hi,em⟩:=st;split
  .split
   .exact⟨λq hq=>by grind,h2⟩
   .split
    .exact⟨λq hq=>by grind,h2⟩
    trivial
  .split
   .exact⟨h1,λq hq=>by grind⟩
   .split
    .exact⟨h1,λq hq=>by grind⟩
    trivial
structure Rg where
 lo:List Q
 hi:List Q
 hl:Bool
 hh:Bool
 em:Bool
def rgV(r:Rg):V:=.agg [szV r.lo,szV r.hi,B r.hl,B r.hh,B r.em]
def oD:Option Q->LdQ
 |some q=>[.str (itoa q.1),.str (ah q.2)]
 |none=>[.str [],.str []]
def enD(s:EnS):LdQ:=oD s.lo++oD s.hi++[.bool s.lo.isSome,.bool s.hi.isSome,.bool s.em]
def Rv(s:EnS):Bool:=match s.lo,s.hi with
 |some a,some b=>decide (Km a b>0)
 |_,_=>false
def scQ(n:Nat)(q:Q):List Q:=pP n [kP n] [q]
def oS(n:Nat):Option Q->List Q
 |some q=>scQ n q
 |none=>[]
def asR(n:Nat)(s:EnS):Rg:=if s.em||Rv s then⟨[],[],false,false,true⟩else⟨oS n s.lo,oS n s.hi,s.lo.isSome,s.hi.isSome,false⟩
def okF(n:Nat)(o:Option Q):Prop:=∀q,o=some q->(okQ q∧qL 30 q)∧okS (scQ n q)
theorem OB(h:Hp)(cs:LdQ)(i:Nat){d:D}(hd:cs[i]?=some d):ld1 h (.dptr cs i)=some (.d d):=by simp[ld1,hd]
theorem abD(h:Hp)(a b:D)(t:LdQ):ldA h 2 (.dptr (a::b::t) 0)=some (.agg [.d a,.d b]):=by rfl
theorem abC(h:Hp)(x y a b:D)(t:LdQ):ldA h 2 (.dptr (x::y::a::b::t) 2)=some (.agg [.d a,.d b]):=by rfl
theorem Us(x0:Nat×Bk)(v b c d e:V)(s:List Q):st [x0,(1,.vars [v,b,c,d,e])] 1 (.ptr 1 1 0 5) (szV s)=some [x0,(1,.vars [szV s,b,c,d,e])]:=rfl
theorem agH{p:LiQ}{st:EnS}(hp:pcB p=0)(h0:0<p.length)(hN:p.length<1000)(h1:okF p.length st.lo)(h2:okF p.length st.hi):CP Y F.jk [.dptr (enD st) 0,lst di p] (.tup [rgV (asR p.length st),I 0]):=by
 refine yE ?_;obtain⟨lo,hi,em⟩:=st;have sc:∀q,(okQ q∧qL 30 q)∧okS (scQ p.length q)->CP Y F.fu [lst di p,.agg (qT q)] (.tup [szV (scQ p.length q),I 0]):=λq hq=>EQ hp h0 hN hq.1 hq.2
 have okz:∀s:List Q,okV (szV s)=true:=λ_=>rfl
 obtain⟨a1,a2,hlo⟩:∃a1 a2,oD lo=[.str a1,.str a2]:=by cases lo<;>exact⟨_,_,rfl⟩
 obtain⟨b1,b2,hhi⟩:∃b1 b2,oD hi=[.str b1,.str b2]:=by cases hi<;>exact⟨_,_,rfl⟩
 obtain⟨C,hC⟩:=nmQ (enD ⟨lo,hi,em⟩);have hC2:C=[.str a1,.str a2,.str b1,.str b2,.bool lo.isSome,.bool hi.isSome,.bool em]:=by rw[hC];simp[enD,hlo,hhi]
 have l4:∀h,ld1 h (.dptr C 4)=some (B lo.isSome):=λh=>OB h C 4 (by grind)
 have l5:∀h,ld1 h (.dptr C 5)=some (B hi.isSome):=λh=>OB h C 5 (by grind)
 have l6:∀h,ld1 h (.dptr C 6)=some (B em):=λh=>OB h C 6 (by grind)
 have m0:∀h,ldA h 2 (.dptr C 0)=some (.agg [S a1,S a2]):=λh=>by grind[abD]
 have m2:∀h,ldA h 2 (.dptr C 2)=some (.agg [S b1,S b2]):=λh=>by grind[abC]
 rw[<-hC];simp only[jk];cases em with
 | true=>
  simp[l6];exact⟨_,rfl⟩
 | false=>
  cases lo with
  | none=>
   cases hi with
   | none=>
    simp[l6,l4,l5];refine aM ?_;simp[l5];refine aM ?_;simp;exact⟨_,rfl⟩
   | some b=>
    have hb:=h2 b rfl;have s2:=sc b hb;simp only[oD,List.cons.injEq,D.str.injEq,and_true]at hhi;obtain⟨rfl,rfl⟩:=hhi;simp only[qT]at s2;simp[l6,l4,l5];refine aM ?_;simp[l5];refine aM ?_;simp[m2];refine cd s2 ?_ (by rfl);simp[okz];exact⟨_,rfl⟩
  | some a=>
   have ha:=h1 a rfl;have s1:=sc a ha;simp only[oD,List.cons.injEq,D.str.injEq,and_true]at hlo;obtain⟨rfl,rfl⟩:=hlo;cases hi with
   | none=>
    simp only[qT]at s1;simp[l6,l4,l5];refine aM ?_;simp[m0];refine cd s1 ?_ (by rfl);simp[Us,l5];refine aM ?_;simp;exact⟨_,rfl⟩
   | some b=>
    have hb:=h2 b rfl;have s2:=sc b hb;simp only[oD,List.cons.injEq,D.str.injEq,and_true]at hhi;obtain⟨rfl,rfl⟩:=hhi;have cm:=Gf ha.1.1 hb.1.1 (ha.1.2.mono aa) (hb.1.2.mono aa);simp only[qT]at s1 s2 cm;simp[l6,l4,l5,m0,m2];refine cd cm ?_ (by rfl);by_cases cp:sgn (a.1*b.2-b.1*a.2)>0
    .have ea:asR p.length ⟨some a,some b,false⟩=⟨[],[],false,false,true⟩:=by simp[asR,Rv,Km,cp]
     rw[ea];simp[cp];exact⟨_,rfl⟩
    .have ea:asR p.length ⟨some a,some b,false⟩=⟨scQ p.length a,scQ p.length b,true,true,false⟩:=by simp[asR,Rv,Km,cp,oS]
     rw[ea];simp[cp,l4,l5];refine aM ?_;simp[m0];refine cd s1 ?_ (by rfl);simp[Us,l5];refine aM ?_;simp[m2];refine cd s2 ?_ (by rfl);simp[okz];exact⟨_,rfl⟩
def La(div:Int):EnS->LiQ->Mz->EnS
 |st,_,[]=>st
 |st,r,s::q=>La div (oR st (nth 0 s 0-nth 0 r 0) (nth 0 s 1-nth 0 r 1) div) s q
theorem HQ{rows:Mz}{div:Int}(hn:rows.length<1000)(h2:∀r∈rows,r.length=2∧bd9 r)(hd:div≠0)(hdb : -1000000000<=div∧div<=1000000000){x0 x1:Nat×Bk}(hu0:ax 4 x0.2=true)(hu1:ax 4 x1.2=true)
  (o0:offB [3] x0.2=true) (o1:offB [3] x1.2=true) (h0:Hp) (hh:∃a b c d,h0=[a,b,c,(0,d)]) (K:KL):∀(q a:Mz)(r:LiQ)(st:EnS),rows=a++r::q->okE st ->
  K (.exit 0) [] (kpH x0 x1 nnQ 1 (La div st r q)) ->
  lp (lU (CX Y) (mat rows) (I div) (.ptr 2 1 0 7)) [3] h0 [I ((a.length:Int)+1)] (kpH x0 x1 nnQ 1 st) K
 | [],a,r,st,e,hst,hK=>by
  refine aj ?_;have hl:rows.length=a.length+1:=by rw[e];simp
  have l1:aO (mat rows)=some (I rows.length):=rfl;have hlt:¬((a.length:Int)+1<(rows.length:Int)):=aa;simp only[lU];simp[l1,hlt];exact hK
 | s::q,a,r,st,e,hst,hK=>by
  refine aj ?_;have hl:a.length+1<rows.length:=by rw[e];simp
  have l1:aO (mat rows)=some (I rows.length):=rfl;have hlt:((a.length:Int)+1<(rows.length:Int)):=aa;have hrm:r∈rows:=by rw[e];simp
  have hsm:s∈rows:=by rw[e];simp
  obtain⟨r2,rb⟩:=h2 r hrm;obtain⟨s2,sb⟩:=h2 s hsm;have R0:∀h:Hp,ixV h 1 (mat rows) (I a.length)=some (.dptr (rows.map row) a.length):=λh=>fN row rows h rfl aa
  have R1:∀h:Hp,ixV h 1 (mat rows) (I ((a.length:Int)+1))=some (.dptr (rows.map row) (a.length+1)):=λh=>fN row rows h aa hl
  have L0:∀h:Hp,ld1 h (.dptr (rows.map row) a.length)=some (lst di r):=λh=>by
   rw[k8 row rows _ aa];simp only[e,Zm (Z8 _),Zc,Zh];rfl
  have L1:∀h:Hp,ld1 h (.dptr (rows.map row) (a.length+1))=some (lst di s):=λh=>by
   have e5:rows[a.length+1]=s:=by simp[e]
   rw[k8 row rows _ hl,e5];rfl
  have X:∀(t:LiQ),t.length=2->∀h:Hp,ixV h 1 (lst di t) (.d (.int .i64 0))=some (.dptr (t.map di) 0)∧ld1 h (.dptr (t.map di) 0)=some (I (nth 0 t 0))∧ixV h 1 (lst di t) (.d (.int .i64 1))=some (.dptr (t.map di) 1)∧ld1 h (.dptr (t.map di) 1)=some (I (nth 0 t 1)):=λt ht h=>
   ⟨fN di t h rfl aa,eV di 0 t h aa,fN di t h rfl aa,eV di 0 t h aa⟩
  have Xr:=X r r2;have Xs:=X s s2;have r0b:=rb (nth 0 r 0) (og aa);have r1b:=rb (nth 0 r 1) (og aa);have s0b:=sb (nth 0 s 0) (og aa);have s1b:=sb (nth 0 s 1) (og aa);have kp:=abI (x0:=x0) (x1:=x1) (x3:=nnQ) (e:=1) (a:=nth 0 s 0-nth 0 r 0) (b:=nth 0 s 1-nth 0 r 1) hst aa aa hd hdb hu0 hu1 rfl
  have kE:=XN (a:=nth 0 s 0-nth 0 r 0) (b:=nth 0 s 1-nth 0 r 1) hst aa aa hd hdb;have ih:=HQ hn h2 hd hdb hu0 hu1 o0 o1 h0 hh K q (a++[r]) s _ (by simp[e]) kE hK;have e4:((a++[r]).length:Int)=(a.length:Int)+1:=ac;rw[e4]at ih;obtain⟨H,hH⟩:=nmQ (kpH x0 x1 nnQ 1 st);rw[<-hH]at kp ⊢;simp only[lU]
  simp(disch:=try exact ae)[l1,hlt,R1,L1,R0,L0,(Xr _).1,(Xr _).2.1,(Xr _).2.2.1,(Xr _).2.2.2,(Xs _).1,(Xs _).2.1,(Xs _).2.2.1,(Xs _).2.2.2];refine gP kp ?_ ac
  have cl:clean [3] [I ((a.length:Int)+1+1)] (kpH x0 x1 nnQ 1 (oR st (nth 0 s 0-nth 0 r 0) (nth 0 s 1-nth 0 r 1) div))=true:=by
   simp only[clean,Z7];refine⟨rfl,Fs 0 _ λy hy=>?_⟩;simp only[kpH,Zx,Yp,or_false]at hy;rcases hy with rfl|rfl|rfl|rfl
   .exact o0
   .exact o1
   .obtain⟨a1,a2,e1⟩:=BH (oR st (nth 0 s 0-nth 0 r 0) (nth 0 s 1-nth 0 r 1) div).lo;obtain⟨b1,b2,e2⟩:=BH (oR st (nth 0 s 0-nth 0 r 0) (nth 0 s 1-nth 0 r 1) div).hi;simp only[enC,e1,e2];rfl
   .rfl
  have rs:aS [3] 0 h0 (kpH x0 x1 nnQ 1 (oR st (nth 0 s 0-nth 0 r 0) (nth 0 s 1-nth 0 r 1) div))=kpH x0 x1 nnQ 1 (oR st (nth 0 s 0-nth 0 r 0) (nth 0 s 1-nth 0 r 1) div):=by
   obtain⟨a',b',c',d',rfl⟩:=hh;obtain⟨A1,A2⟩:=a';obtain⟨B1,B2⟩:=b';obtain⟨C1,C2⟩:=c';obtain⟨X1,X2⟩:=x0;obtain⟨Y1,Y2⟩:=x1;rfl
  have ea:biI BinOp.add (I ((a.length:Int)+1)) (V.d (D.int IntKind.i64 1))=some (I ((a.length:Int)+1+1)):=by simp(disch:=try exact ae)
  simp_all
theorem agu(st:EnS):Kc (enC st)=some (enD st):=by obtain⟨lo,hi,em⟩:=st;cases lo<;>cases hi<;>rfl
theorem aeI(st:EnS):(enC st).length=7:=by obtain⟨lo,hi,em⟩:=st;cases lo<;>cases hi<;>rfl
def en0:EnS:=⟨none,none,false⟩
variable{p:LiQ}{c w:Mz}
theorem Sb(h:rY p c w)(hg:gtB w=0){l:Mz}{x:LiQ}{q:Mz}(hlx:l=x::q)(hl:l.length<=60)(ho:∀x∈l,Ph p w x)(hm:mzB p l=0)
  (h1:okF p.length (La (nth 0 (nth [] w 0) 0) en0 (cG w x) (q.map (cG w))).lo) (h2:okF p.length (La (nth 0 (nth [] w 0) 0) en0 (cG w x) (q.map (cG w))).hi) :
  CP Y F.cJ [tpV p c w,mat l] (.tup [rgV (asR p.length (La (nth 0 (nth [] w 0) 0) en0 (cG w x) (q.map (cG w)))),I 0]):=by
 refine tv ?_;simp only[cJ,tpV];obtain⟨div,hdiv⟩:=nmQ (nth 0 (nth [] w 0) 0)
 have w2:w.length=2:=by
  apply Classical.byContradiction;intro e;simp[gtB,e]at hg
 have hd:div≠0:=by
  rw[hdiv];intro e;simp[gtB,w2,e]at hg
 have hw0:nth [] w 0∈w:=by rw[cO _ _ _ aa];exact Yl _
 have hdb : -1000000000<=div∧div<=1000000000:=by
  rw[hdiv];exact h.lw.sm _ hw0 _ (og (by rw[h.lw.rl _ hw0];exact h.lw.n0))
 have td:=Pz h hg hl ho hm;have hn:=h.lc.n12;rw[<-hdiv]at td h1 h2 ⊢;simp;refine cd (args:=[tpV p c w,mat l]) td ?_ (by rfl);simp
 have hb:∀s∈l.map (cG w),s.length=2∧bd9 s:=λs hs=>by
  obtain⟨y,hy,rfl⟩:=Zw.1 hs;exact⟨by simp[cG,w2],(ho y hy).t⟩
 have e0:okE en0:=⟨λq hq=>(by cases hq),λq hq=>(by cases hq)⟩;refine lo (HQ (rows:=l.map (cG w)) (div:=div) (by grind) hb hd hdb (x0:=(1,.vars [lst di p,mat c,mat w])) (x1:=(1,.vars [nlV,nlV,B false,B false,B false])) rfl rfl rfl rfl _ ⟨_,_,_,_,rfl⟩ _ (q.map (cG w)) [] (cG w x) en0 (by grind) e0 ?_)
 have aso:=agH (p:=p) (st:=La div en0 (cG w x) (q.map (cG w))) h.pr h.lw.n0 aa h1 h2;generalize La div en0 (cG w x) (q.map (cG w))=st at *;obtain⟨R,hR⟩:=nmQ (asR p.length st);rw[<-hR]at aso ⊢
 have sn:aK (kpH (1,.vars [lst di p,mat c,mat w]) (1,.vars [nlV,nlV,B false,B false,B false]) nnQ 1 st) [.ptr 2 1 0 7,lst di p]=some ([.dptr (enD st) 0,lst di p],[(1,.vars [lst di p,mat c,mat w]),(1,.vars [nlV,nlV,B false,B false,B false]),(1,.data 1 (enD st) false true),nnQ]):=by
  have g:aw (kpH (1,.vars [lst di p,mat c,mat w]) (1,.vars [nlV,nlV,B false,B false,B false]) nnQ 1 st) 2 1=.vars (enC st):=rfl;simp only[aK,bV,g,agu,aeI,if_true];rfl
 obtain⟨H,hH⟩:=nmQ (kpH (1,.vars [lst di p,mat c,mat w]) (1,.vars [nlV,nlV,B false,B false,B false]) nnQ 1 st);rw[<-hH]at sn ⊢;have g0:lO H 0 1=.vars [lst di p,mat c,mat w]:=by rw[hH];rfl
 simp[g0];refine tc sn aso ?_;have okz:∀s:List Q,okV (szV s)=true:=λ_=>rfl
 simp only[rgV,cu];simp[okz];exact⟨_,rfl⟩
variable{l:Int->Nat}{N:Nat}
theorem afF(s:List Q)(h:Hp)(hi:i<s.length):∃w,ixV h 2 (szV s) (I i)=some w∧ldA h 2 w=some (.agg (qT (nth (0,1) s i))):=by
 have h1:=m9 aB aH (s.map tx) h (k:=.i64) (i:=(i:Int)) aa (by grind);rw[Int.toNat_natCast]at h1;refine⟨_,h1,?_⟩;have h2:=oi aB aH (tx (0,1)) (s.map tx) h (j:=i) (by grind);rw[h2]
 have e:nth (tx (0,1)) (s.map tx) i=tx (nth (0,1) s i):=by
  rw[cO _ _ _ (by grind),cO _ _ _ hi,List.getElem_map]
 rw[e];rfl
variable{a:Ad}
end Go.Vm
