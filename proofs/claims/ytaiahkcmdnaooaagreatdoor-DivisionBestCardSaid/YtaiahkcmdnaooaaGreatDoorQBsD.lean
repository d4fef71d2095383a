/- Divisions: Best. -/
import Derived.Test.YtaiahkcmdnaooaaGreatDoorQLdY
set_option linter.unusedVariables false
set_option linter.unusedSimpArgs false
namespace Go.Vm
open Go Go.Am Go.Big
def bD (p:List Int) (l:List Rw) (n:Nat):List Q:=wO p n (wGo p n none l)
def bV (p:List Int) (l:List Rw) (n:Nat):Int:=vlS p n (bD p l n)
def bGo (f:Nat->Int):Nat->Nat->Nat->Nat
 | 0,_,j=>j
 | r+1,k,j=>if k=1∨f k*j<f j*k then bGo f r (k+1) k else bGo f r (k+1) j
theorem HZ (p:List Int) (n:Nat) {l:List Rw}:∀ (q:List Rw) (o:Option Rw),(∀ r∈q,r∈l)->wIn l o->wIn l (wGo p n o q)
 | [],o,_,ho=>ho
 | r::q,o,hq,ho=>by
  simp only [wGo];split
  ·exact HZ p n q (some r) (fun x hx=>hq x (by simp [hx])) (fun x e=>by cases e;exact hq r af)
  ·exact HZ p n q o (fun x hx=>hq x (by simp [hx])) ho
theorem mq {p:List Int} {l:List Rw} (G:pU p l) {n:Nat} (n0:0<n) (n1:n<=100):(bD p l n).length=p.length∧bdL n 8645700 (bD p l n)∧okS (bD p l n):=by
 have hw:wIn l (wGo p n none l):=HZ p n l none (fun r h=>h) (fun r e=>by cases e);obtain ⟨h1,h2⟩:=zp G n0 n1 hw;exact ⟨h1,h2,Mz G n0 n1 hw⟩
theorem FV {x:Int}:(x.sign<0)=(x<0):=by
 rcases Ya x 0 with h | h | h
 ·rw [Y5 h];simp;omega
 ·rw [h];simp
 ·rw [Yr h];simp;omega
theorem VD {p:List Int} {l:List Rw} (G:pU p l) {n m:Nat} (n0:0<n) (n1:n<=100) (m0:0<m) (m1:m<=100) :
  ∃ z,rT p (dfS p (bD p l n) (bD p l m)) z∧(z<0)=(bV p l n*m<bV p l m*n):=by
 obtain ⟨a1,a2,_⟩:=mq G n0 n1;obtain ⟨b1,b2,_⟩:=mq G m0 m1;have e1:8645700*m<=8645700*100:=Z5 _ m1;have e2:8645700*n<=8645700*100:=Z5 _ n1;refine ⟨_,Pw G.i6 a1 b1 n0 m0 a2 b2 aa,?_⟩;rw [FV];unfold bV;simp only [eq_iff_iff];omega
theorem tG {p:List Int} {l:List Rw} (G:pU p l) {lim:Nat} (hlim:lim<=100) (hN:l.length<1000000) (k:KL) (h0:Hp) (hh:h0.length=0):∀ (f n m:Nat) (best:V),n+f=lim+1->1<=n->m<n->(m=0->n=1)->(m≠0->best=szV (bD p l m))->(m=0->best=lO) ->
  (∀ j,j=bGo (bV p l) f n m->(f≠0∨m≠0)->k (.exit 0) [I j,szV (bD p l j)] [])->(f≠0∨m≠0) ->
  lp (kJ (CX Y) (lst di p) (mat l) (I lim)) [] h0 [I m,best,I n] [] k
 | 0,n,m,best,hf,hn,hm,hm0,hb,hb0,hk,hor=>by
  have g:¬ (n:Int)<=(lim:Int):=aa
  have hm1:m≠0:=by
   rcases hor with h | h
   ·exact absurd rfl h
   ·exact h
  obtain rfl:=hb hm1;refine ax ?_;simp (disch:=try exact ac)[kJ,g];exact hk m rfl hor
 | f+1,n,m,best,hf,hn,hm,hm0,hb,hb0,hk,hor=>by
  have g:(n:Int)<=(lim:Int):=aa;have wo:=Mv G hn aa hN;obtain ⟨a1,a2,a3⟩:=mq G (n:=n) hn aa;have hN20:p.length<=6:=G.i6.2.1;have hre:aE [] 0 h0 []=[]:=cQ 0 h0 _ (by simp [hh]);have wo':CP Y F.hH [lst di p,I n,mat l] (.tup [szV (bD p l n),I 0]):=wo
  have sn:∀ (h:Hp) (x y:List Q),aj h [lst di p,szV x,szV y]=some ([lst di p,szV x,szV y],h):=fun h x y=>by simp [aj,szV,bN]
  refine ax ?_;simp (disch:=try exact ac)[kJ,g];refine bj ?_;simp (disch:=try exact ac)[];refine cd wo' ?_;by_cases h1:n=1
  ·subst h1;have hm1:m=0:=aa;subst hm1;have ih:=tG G hlim hN k h0 hh f 2 1 (szV (bD p l 1)) aa aa aa aa (fun _=>rfl) aa (fun j hj _=>hk j (by rw [hj];simp [bGo]) af) (.inr af);simp (disch:=try exact ac)[];refine bj ?_;simp (disch:=try exact ac)[hre,szV,bN];simpa [szV,bN] using ih
  ·have hm1:m≠0:=fun e=>h1 (hm0 e)
   obtain rfl:=hb hm1;obtain ⟨b1,b2,b3⟩:=mq G (n:=m) aa aa;obtain ⟨z,cz,hz⟩:=VD G (n:=n) (m:=m) hn aa aa aa;have dl:=AZ G.pc aa a1 b1 a3 b3 cz;have h1':¬ (n:Int)=1:=aa;simp (disch:=try exact ac)[h1'];refine cd dl ?_ (sn _ _ _);by_cases hl:z<0
   ·have hlt:bV p l n*m<bV p l m*n:=by rw [<- hz];exact hl
    have ih:=tG G hlim hN k h0 hh f (n+1) n (szV (bD p l n)) aa aa aa aa (fun _=>rfl) aa (fun j hj _=>hk j (by rw [hj,bGo,if_pos (.inr hlt)]) af) (.inr aa);simp (disch:=try exact ac)[hl];refine bj ?_;simp (disch:=try exact ac)[hl,hre,szV,bN];simpa [szV,bN] using ih
   ·have hlt:¬ bV p l n*m<bV p l m*n:=by rw [<- hz];exact hl
    have ih:=tG G hlim hN k h0 hh f (n+1) m (szV (bD p l m)) aa aa aa aa (fun _=>rfl) aa (fun j hj _=>hk j (by rw [hj,bGo,if_neg aa]) af) (.inr aa);simp (disch:=try exact ac)[hl];refine bj ?_;simp (disch:=try exact ac)[hl,hre,szV,bN];simpa [szV,bN] using ih
theorem EV {p:List Int} {l:List Rw} (G:pU p l) {lim:Nat} (l1:1<=lim) (hlim:lim<=100) (hne:l≠[]) (hN:l.length<=60) (hm:∀ r∈l,mzB p [r]=0) :
  CP Y F.dQ [lst di p,mat l,I lim] (.tup [I (bGo (bV p l) lim 1 0),szV (bD p l (bGo (bV p l) lim 1 0)),I 0]):=by
 refine qN ?_;have hN20:p.length<=6:=G.i6.2.1;have pc:=gG (p:=p) aa;rw [G.pc] at pc;have ck:=nP (p:=p) (m:=l) aa aa;rw [vZ hN hm] at ck;have ll:aA (mat l)=some (I l.length):=rfl
 have hl0:¬ (l.length:Int)=0:=by
  have:l.length≠0:=fun e=>hne (Yw.1 e)
  omega
 have g1:¬ (lim:Int)<1:=aa;have g2:¬ (500:Int)<(lim:Int):=aa
 have bl:=tG G hlim aa (exK [((.exit 0),fun l11 h=>out (.tup [I (bGo (bV p l) lim 1 0),szV (bD p l (bGo (bV p l) lim 1 0)),I 0]) (.tup [(ge l11 0),(ge l11 1),(.d (.int .i64 0))]) h),(.ret,fun l11 h=>out (.tup [I (bGo (bV p l) lim 1 0),szV (bD p l (bGo (bV p l) lim 1 0)),I 0]) (.tup [(ge l11 0),(ge l11 1),(ge l11 2)]) h)]) [] rfl lim 1 0 lO aa aa aa aa aa (fun _=>rfl) (fun j hj _=>by
  simp only [exK];rw [<- hj];exact ⟨[],by simp [aI,aj,szV,bN]⟩) (.inl aa)
 simp (disch:=try exact ac)[dQ];refine cd pc ?_;simp (disch:=try exact ac)[];refine cd ck ?_;simp (disch:=try exact ac)[ll,hl0,g1,g2];exact bl
theorem RJ {p:List Int} {lim:Int} (hp:pcB p=0) (hN:p.length<=20):CP Y F.dQ [lst di p,mat [],I lim] (.tup [I 0,lst di [],I 13]):=by
 refine qN ?_;have pc:=gG (p:=p) aa;rw [hp] at pc;have ck:=nP (p:=p) (m:=[]) aa af;rw [vZ af (fun r hr=>by simp at hr)] at ck;have ll:aA (mat [])=some (I 0):=rfl;simp (disch:=try exact ac)[dQ];refine cd pc ?_;simp (disch:=try exact ac)[];refine cd ck ?_
 simp (disch:=try exact ac)[ll];exact ⟨[],by simp [aI,aj,lst]⟩
abbrev I4:=Int × Int × Int × Int
def i4D (x:I4):List D:=[.int .i8 x.1,.int .i8 x.2.1,.int .i8 x.2.2.1,.int .i8 x.2.2.2]
theorem Kq (x:I4):(i4D x).length=4:=rfl
def i4L (x:I4):List Int:=[x.1,x.2.1,x.2.2.1,x.2.2.2]
def ok4 (x:I4):Prop:=(-128<=x.1∧x.1<=127)∧(-128<=x.2.1∧x.2.1<=127)∧(-128<=x.2.2.1∧x.2.2.1<=127)∧(-128<=x.2.2.2∧x.2.2.2<=127)
def mkI (p:List Int) (x:I4):Rw:=itv p.length (i4L x)
def m3H (k:Nat) (e:List I4) (p:List Int) (i:Nat):Hp:=[(1,.vars [.d (.int .u8 k),bN i4D e]),acL.b i ((e.map fun x=>row (mkI p x)).take i)]
def m3V (e:List I4) (p:List Int) (i:Nat):V:=acL.v i ((e.map fun x=>row (mkI p x)).take i)
theorem Kd {p:List Int} {e:List I4} {kk:Nat} (he:e.length<=6) (hb:∀ x∈e,ok4 x) (hp:p.length<=4) (k:KL) (h0:Hp) (hh:h0.length=2):∀ (f i:Nat),i+f=e.length ->
  k (.exit 0) [m3V e p e.length] (m3H kk e p e.length) ->
  lp (ir (CX Y) (.ptr 0 1 0 2) (lst di p)) [] h0 [m3V e p i,I i] (m3H kk e p i) k
 | 0,i,hi,hk=>by
  have:i=e.length:=aa;subst this;refine ax ?_;unfold m3H at hk ⊢;simp (disch:=try exact ac)[ir];simpa using hk
 | f+1,i,hi,hk=>by
  have g:(i:Int)<(e.length:Int):=aa;have g6:(i:Int)<6:=aa;have hlt:i<e.length:=aa;obtain ⟨x,hx⟩:∃ x,x=nth (0,0,0,0) e i:=⟨_,rfl⟩;have hx2:e[i]? = some x:=by rw [hx,f9 _ e i hlt];exact List.getElem?_eq_getElem hlt
  have hm:=hb x (Y6 hx2);have io:CP Y F.cO [lst di p,.agg [i8V x.1,i8V x.2.1,i8V x.2.2.1,i8V x.2.2.2]] (lst di (mkI p x)):=HU hm.1 hm.2.1 hm.2.2.1 hm.2.2.2 hp;have i1:=fun h=>jT i4D Kq e h (k:=.i64) (i:=(i:Int)) aa aa
  have i2:=fun h=>jS i4D Kq (0,0,0,0) e h (j:=i) hlt
  rw [<- hx] at i2;simp only [Int.toNat_natCast] at i1;have i2':∀ h,ldA h 4 (.dptr (e.flatMap i4D) (i*4))=some (.agg [i8V x.1,i8V x.2.1,i8V x.2.2.1,i8V x.2.2.2]):=i2;have ih:=Kd (kk:=kk) he hb hp k h0 hh f (i+1) aa hk
  have es:(e.map fun x=>row (mkI p x)).take (i+1)=(e.map fun x=>row (mkI p x)).take i++[row (mkI p x)]:=by
   rw [Wn,List.getElem?_map,hx2];simp
  have lc:((e.map fun x=>row (mkI p x)).take i).length=i*acL.n:=by simp [acL];omega
  have li1:∀ (H:Hp),dY 1 [D.pl (Value.slice none 0 0)] [(0,lst di (mkI p x))] H=some ([row (mkI p x)],H):=fun H=>IT ..
  have dp:∀ y z w:Nat × Bk,([y,z]:Hp).set acL.s w=[y,w]:=fun y z w=>rfl
  have hre:∀ y:Hp,y.length=2->aE [] 0 h0 y=y:=fun y hy=>cQ 0 h0 y aa
  have ev:∀ c,acL.v (i+1) c=.ref acL.s (acL.e+1) 0 (i+1) (i+1) c.length:=fun c=>rfl
  have eb:∀ c,acL.b (i+1) c=(acL.e+1,.data acL.n c false false):=fun c=>rfl
  have ofv:offB [] (.vars [.d (.int .u8 kk),bN i4D e])=true:=rfl;have sn:∀ h,aj h [lst di p,.agg [i8V x.1,i8V x.2.1,i8V x.2.2.1,i8V x.2.2.2]]=some ([lst di p,.agg [i8V x.1,i8V x.2.1,i8V x.2.2.1,i8V x.2.2.2]],h):=fun h=>by simp [aj,aI,i8V]
  refine ax ?_;simp (disch:=try exact ac)[ir,m3H,g,g6,i1,i2'];refine cd io ?_ (sn _);simp (disch:=try exact ac)[li1];unfold m3V;refine oV acL (k:=1) aa rfl lc (by rfl) rfl (fun t e=>by cases e) aa ae ?_;unfold m3V m3H at ih;rw [es] at ih
  simp (disch:=try exact ac)[dp,hre,clean,eM,mz,mt,dM,jj,ofv,ev,eb];refine ⟨rfl,?_⟩;have hmin:min i e.length=i:=aa;simpa [ev,eb,hmin] using ih
theorem CJ {e:List I4} {k:Nat} (hk:k<256) (he:e.length<=6) (hb:∀ x∈e,ok4 x):CP Y F.eA [.agg [.d (.int .u8 k),bN i4D e]] (.tup [lst di (tQ k),mat (e.map (mkI (tQ k)))]):=by
 refine tK ?_;obtain ⟨p1,p2,p3,p4,p5⟩:=NT _ (wS k);obtain ⟨p,hp⟩:∃ p,p=tQ k:=⟨_,rfl⟩;rw [<- hp] at p1 p2 p3 p4 p5 ⊢;have pk:=Gn hk;rw [<- hp] at pk;have lc:(e.map fun x=>row (mkI p x)).length=e.length*acL.n:=by simp [acL]
 have ll:=Kd (p:=p) (kk:=k) he hb p4 (exK [((.exit 0),fun l5 h=>out (.tup [lst di p,mat (e.map (mkI p))]) (.tup [lst di p,(ge l5 0)]) h)]) (m3H k e p 0) rfl e.length 0 aa (by
  obtain ⟨h',q1,_⟩:=oM acL (L:=e.length) (cells:=e.map fun x=>row (mkI p x)) (h:=m3H k e p e.length) (by rw [m3H,Zv af];rfl) lc;simp only [exK,m3V];rw [Zv af];have em:mat (e.map (mkI p))=.d (.sl e.length (e.map fun x=>row (mkI p x))):=by simp [lst]
  rw [em];exact aB (rO _ _ _) q1)
 simp (disch:=try exact ac)[eA];refine cd pk ?_;simp (disch:=try exact ac)[];exact ll
theorem uA {p:List Int} {r0:Rw} {l:List Rw} (G:pU p (r0::l)) {lim:Nat} (hlim:lim<=100) (hN:(r0::l).length<1000000) (k:KL) (x0:Nat × Bk) (hx0:offB [] x0.2=true) (h0:Hp) (hh:h0.length=1):∀ (f n m:Nat),n+f=lim+1->1<n->0<m->m<n ->
  k (.exit 0) [I (bGo (bV p (r0::l)) f n m),szV (bD p (r0::l) (bGo (bV p (r0::l)) f n m))] [x0] ->
  lp (dS (CX Y) (lst di p) (mat (r0::l)) (I lim)) [] h0 [I m,szV (bD p (r0::l) m),I n] [x0] k
 | 0,n,m,hf,hn,hm,hmn,hk=>by
  have g:¬ (n:Int)<=(lim:Int):=aa;refine ax ?_;simp (disch:=try exact ac)[dS,g];exact hk
 | f+1,n,m,hf,hn,hm,hmn,hk=>by
  have g:(n:Int)<=(lim:Int):=aa;have wo:CP Y F.cr [lst di p,I n,mat (r0::l)] (szV (bD p (r0::l) n)):=CK G aa aa hN;obtain ⟨a1,a2,a3⟩:=mq G (n:=n) aa aa;obtain ⟨b1,b2,b3⟩:=mq G (n:=m) aa aa;obtain ⟨z,cz,hz⟩:=VD G (n:=n) (m:=m) aa aa aa aa;have hN20:p.length<=6:=G.i6.2.1
  have co:=qH G.pc aa a1 b1 a3 b3 cz;have hre:∀ y:Hp,y.length=1->aE [] 0 h0 y=y:=fun y hy=>cQ 0 h0 _ aa
  have sn:∀ (h:Hp) (x y:List Q),aj h [lst di p,szV x,szV y]=some ([lst di p,szV x,szV y],h):=fun h x y=>by simp [aj,szV,bN]
  have hn1:¬ n=1:=aa;refine ax ?_;simp (disch:=try exact ac)[dS,g];refine bj ?_;simp (disch:=try exact ac)[];refine cd wo ?_;simp (disch:=try exact ac)[];refine cd co ?_ (sn _ _ _);by_cases hl:z<0
  ·have hlt:bV p (r0::l) n*m<bV p (r0::l) m*n:=by rw [<- hz];exact hl
   rw [bGo,if_pos (.inr hlt)] at hk;have ih:=uA G hlim hN k x0 hx0 h0 hh f (n+1) n aa aa aa aa hk;simp (disch:=try exact ac)[hl];refine bj ?_;simp (disch:=try exact ac)[hre,clean,eM,mz,mt,dM,jj,szV,bN,hx0];simpa [szV,bN] using ih
  ·have hlt:¬ bV p (r0::l) n*m<bV p (r0::l) m*n:=by rw [<- hz];exact hl
   rw [bGo,if_neg aa] at hk;have ih:=uA G hlim hN k x0 hx0 h0 hh f (n+1) m aa aa aa aa hk;simp (disch:=try exact ac)[hl];refine bj ?_;simp (disch:=try exact ac)[hre,clean,eM,mz,mt,dM,jj,szV,bN,hx0];simpa [szV,bN] using ih
theorem OA {k m:Nat} {e:List I4} (hk:k<256) (hm:m<256) (hb:∀ x∈e,ok4 x):CP Y F.bK [.agg [.d (.int .u8 k),bN i4D e],.d (.int .u8 m)] (B true):=by
 refine nJ ?_;by_cases h3:3<e.length
 ·have g3:(3:Int)<(e.length:Int):=aa;simp (disch:=try exact ac)[bK];refine cd ko ?_;simp (disch:=try exact ac)[g3];refine cd ko ?_;simp (disch:=try exact ac)[]
 ·have g3:¬ (3:Int)<(e.length:Int):=aa;obtain ⟨p1,p2,p3,p4,p5⟩:=NT _ (wS k);have mo:=CJ (e:=e) hk aa hb;obtain ⟨p,hp⟩:∃ p,p=tQ k:=⟨_,rfl⟩;rw [<- hp] at p1 p2 p3 p4 p5 mo;obtain ⟨n,hn⟩:∃ n,n=m % 30+1:=⟨_,rfl⟩;have en:1+(m:Int) % 30=(n:Int):=by rw [hn];omega
  have m1:0<=(m:Int) % 30∧(m:Int) % 30<30:=aa;have snD:∀ h:Hp,aj h [.agg [.d (.int .u8 k),bN i4D e]]=some ([.agg [.d (.int .u8 k),bN i4D e]],h):=fun h=>by simp [aj,aI,bN]
  simp (disch:=try exact ac)[bK];refine cd ko ?_;simp (disch:=try exact ac)[g3];refine cd mo ?_ (snD _);cases e with
  | nil=>
   have bn:=RJ (p:=p) (lim:=(n:Int)) p1 aa;have l0:aA (mat [])=some (I 0):=rfl;have l0':aA (lst di [])=some (I 0):=rfl;simp (disch:=try exact ac)[Zu,m1,en];refine cd bn ?_;simp (disch:=try exact ac)[l0,l0']
  | cons x e=>
   have gds:pU p ((x::e).map (mkI p)):=⟨p1,⟨p2,aa,p5⟩,p3,fun r hr=>by
    obtain ⟨y,_,rfl⟩:=Zc.1 hr;exact ⟨Kn rfl p4,OF _ _⟩⟩
   have hmz:∀ r∈(x::e).map (mkI p),mzB p [r]=0:=fun r hr=>Em p1 (gds.rw r hr).1 (Ig (gds.rw r hr).2)
   have lle:((x::e).map (mkI p)).length<=3:=by rw [List.length_map];omega
   have bo:=EV gds (lim:=n) aa aa af aa hmz;simp only [Zz] at gds bo lle;obtain ⟨r0,hr0⟩:∃ r0,r0=mkI p x:=⟨_,rfl⟩;obtain ⟨l,hl⟩:∃ l,l=e.map (mkI p):=⟨_,rfl⟩;have em:mat ((x::e).map (mkI p))=mat (r0::l):=by rw [hr0,hl];rfl
   rw [<- hr0,<- hl] at gds bo lle;have wo:CP Y F.cr [lst di p,I 1,mat (r0::l)] (szV (bD p (r0::l) 1)):=CK gds (n:=1) aa aa aa;obtain ⟨f,hf⟩:∃ f,n=f+1:=⟨n-1,aa⟩;have eb:bGo (bV p (r0::l)) n 1 0=bGo (bV p (r0::l)) f 2 1:=by rw [hf,bGo,if_pos (.inl rfl)]
   rw [eb] at bo;obtain ⟨j,hj⟩:∃ j,j=bGo (bV p (r0::l)) f 2 1:=⟨_,rfl⟩;rw [<- hj] at bo
   have jb:∀ (f n m:Nat),0<m->m<n->0<bGo (bV p (r0::l)) f n m∧bGo (bV p (r0::l)) f n m<n+f:=by
    intro f
    induction f with
    | zero=>intro n m h1 h2;simp only [bGo];omega
    | succ f ih=>
     intro n m h1 h2;simp only [bGo];split
     ·have:=ih (n+1) n aa aa;omega
     ·have:=ih (n+1) m h1 aa;omega
   have jb':=jb f 2 1 aa aa;rw [<- hj] at jb';obtain ⟨d1,_,_⟩:=mq gds (n:=j) aa aa;have eq:=C3 (s:=bD p (r0::l) j) (t:=bD p (r0::l) j) aa;rw [decide_eq_true rfl] at eq;have ll:aA (mat (r0::l))=some (I (r0::l).length):=rfl;have hl0:¬ ((r0::l).length:Int)=0:=by simp;omega
   have snQ:∀ (h:Hp) (x y:List Q),aj h [szV x,szV y]=some ([szV x,szV y],h):=fun h x y=>by simp [aj,szV,bN]
   rw [em];simp (disch:=try exact ac)[Zu,m1,en];refine cd bo ?_;simp (disch:=try exact ac)[ll,hl0];refine cd wo ?_;simp (disch:=try exact ac)[]
   refine lo (uA gds (lim:=n) aa aa _ (1,.vars [.d (.int .u8 k),bN i4D (x::e)]) rfl [(1,.vars [.d (.int .u8 k),bN i4D (x::e)])] rfl f 2 1 aa aa aa aa ?_);rw [<- hj];simp (disch:=try exact ac)[];refine cd eq ?_ (snQ _ _ _);simp (disch:=try exact ac)[]
end Go.Vm
