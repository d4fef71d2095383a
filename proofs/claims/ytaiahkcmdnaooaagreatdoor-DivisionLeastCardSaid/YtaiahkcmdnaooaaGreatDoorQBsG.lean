/- The law DivisionLeast. -/
import Derived.Test.YtaiahkcmdnaooaaGreatDoorQBsD
set_option linter.unusedVariables false
set_option linter.unusedSimpArgs false
namespace Go.Vm
open Go Go.Am Go.Big
theorem Jo {p:List Int} {r:Rw} (G:pU p [r]) {n:Nat} (n0:0<n) (n1:n<=100):bD p [r] n=dk p n r:=by
 obtain ⟨_,_,_,a4,_⟩:=ju G (r:=r) af n0 n1;unfold bD;simp only [wGo];split
 ·rfl
 ·rename_i h;have e:vlS p n (wO p n none)=0:=Jz p n;have h':¬ vlS p n (wO p n none)<vlS p n (dk p n r):=h;exact (a4 aa).symm
def AB:List Int->Int->Int
 | [],d=>d
 | x::l,_=>AB l x
theorem CR:∀ (l:List Int) (d e:Int),l≠[]->nth e l (l.length-1)=AB l d
 | [],d,e,h=>absurd rfl h
 | [x],d,e,_=>rfl
 | x::y::l,d,e,_=>by
  have:=CR (y::l) x e af;simp only [List.length_cons,Xf] at this ⊢;rw [AB,<- this];simp [nth]
theorem Ab {ls:Nat->Nat->Bool} {f:Nat->Int} {lim:Nat} (h:∀ n m,1<=m->m<n->n<=lim->ls n m=decide (f n*m<f m*n)):∀ r n m,2<=n->1<=m->m<n->n+r<=lim+1->AB (gU ls r n m) m=bGo f r n m
 | 0,n,m,_,_,_,_=>rfl
 | r+1,n,m,h1,h2,h3,h4=>by
  have hl:=h n m h2 h3 aa;simp only [gU,bGo];by_cases hc:f n*m<f m*n
  ·rw [if_pos (.inr (by rw [hl];exact decide_eq_true hc)),if_pos (.inr hc),AB];exact Ab h r (n+1) n aa aa aa aa
  ·have:¬ (m=0∨ls n m=true):=by rw [hl];simp;omega
   rw [if_neg this,if_neg aa];exact Ab h r (n+1) m aa aa aa aa
theorem ze {f:Nat->Int}:∀ (r n m:Nat),2<=n->1<=m->m < n->(1<=bGo f r n m∧bGo f r n m < n+r)∧((∀ k,1<=k->k < n->f m * k<=f k * m)->∀ k,1<=k->k < n+r->f (bGo f r n m) * k<=f k * (bGo f r n m))
 | 0,n,m,h1,h2,h3=>⟨by simp only [bGo];omega,fun h k k1 k2=>by simp only [bGo];exact h k k1 aa⟩
 | r+1,n,m,h1,h2,h3=>by
  simp only [bGo];by_cases hc:f n * m < f m * n
  ·rw [if_pos (.inr hc)];obtain ⟨b1,b2⟩:=ze (f:=f) r (n+1) n aa aa aa;refine ⟨aa,fun h k k1 k2=>b2 (fun j j1 j2=>?_) k k1 aa⟩;by_cases hj:j=n
   ·subst hj;exact V6 _
   ·-- f n * m < f m * n, f m * j <= f j * m
    have q:=h j j1 aa;have q1:f n * m * j<=f m * n * j:=Zs (Int.le_of_lt hc) aa;have q2:f m * j * n<=f j * m * n:=Zs q aa
    have q3:f n * j * m<=f j * n * m:=by
     rw [Za (f n),Za (f j)];refine Int.le_trans q1 ?_;rw [Za (f m)];exact q2
    exact Int.le_of_mul_le_mul_right q3 aa
  ·rw [if_neg aa];obtain ⟨b1,b2⟩:=ze (f:=f) r (n+1) m aa aa aa;refine ⟨aa,fun h k k1 k2=>b2 (fun j j1 j2=>?_) k k1 aa⟩;by_cases hj:j=n
   ·subst hj;omega
   ·exact h j j1 aa
theorem H3 {p:List Int} {n:Nat}:∀ (l:List Rw) (o:Option Rw),vlS p n (wO p n o)<=vlS p n (wO p n (wGo p n o l))
 | [],o=>V6 _
 | r::l,o=>by
  simp only [wGo];split
  ·have:=H3 (p:=p) (n:=n) l (some r);omega
  ·exact H3 l o
theorem VE {p:List Int} {r:Rw} {l:List Rw} (G:pU p (r::l)) {n:Nat} (n0:0<n) (n1:n<=100):bV p [r] n<=bV p (r::l) n:=by
 have G1:pU p [r]:=⟨G.pc,G.i6,G.hl,fun x hx=>G.rw x (by simp only [Zt,Zd,or_false] at hx;simp [hx])⟩;unfold bV;rw [Jo G1 n0 n1];unfold bD;rw [My G n0 n1];exact H3 l (some r)
theorem LS {k m:Nat} {e:List I4} (hk:k < 256) (hm:m < 256) (hb:∀ x ∈ e,ok4 x):CP Y F.bb [.agg [.d (.int .u8 k),bN i4D e],.d (.int .u8 m)] (B true):=by
 refine m8 ?_;by_cases h3:3 < e.length
 ·have g3:(3:Int) < (e.length:Int):=aa;have g0:¬ e=[]:=fun h=>by subst h;simp at h3
  simp (disch:=try exact ac)[bb];refine cd ko ?_;simp (disch:=try exact ac)[g3,g0];refine cd ko ?_;simp (disch:=try exact ac)[]
 ·have g3:¬ (3:Int) < (e.length:Int):=aa;cases e with
  | nil=>
   simp (disch:=try exact ac)[bb];refine cd ko ?_;simp (disch:=try exact ac)[];refine cd ko ?_;simp (disch:=try exact ac)[]
  | cons x e=>
   have g0:¬ ((x :: e).length:Int)=0:=by simp;omega
   obtain ⟨p1,p2,p3,p4,p5⟩:=NT _ (wS k);have mo:=CJ (e:=x :: e) hk aa hb;obtain ⟨p,hp⟩:∃ p,p=tQ k:=⟨_,rfl⟩;rw [<- hp] at p1 p2 p3 p4 p5 mo;obtain ⟨n,hn⟩:∃ n,n=m % 30+1:=⟨_,rfl⟩;have en:1+(m:Int) % 30=(n:Int):=by rw [hn];omega
   have m1:0<=(m:Int) % 30∧(m:Int) % 30 < 30:=aa;have hi:in6 p:=⟨p2,aa,p5⟩
   have gds:pU p ((x :: e).map (mkI p)):=⟨p1,hi,p3,fun r hr=>by
    obtain ⟨y,_,rfl⟩:=Zc.1 hr;exact ⟨Kn rfl p4,OF _ _⟩⟩
   have hmz:∀ r ∈ (x :: e).map (mkI p),mzB p [r]=0:=fun r hr=>Em p1 (gds.rw r hr).1 (Ig (gds.rw r hr).2)
   have lle:((x :: e).map (mkI p)).length<=3:=by rw [List.length_map];omega
   simp only [Zz] at gds hmz lle;obtain ⟨r0,hr0⟩:∃ r0,r0=mkI p x:=⟨_,rfl⟩;obtain ⟨l,hl⟩:∃ l,l=e.map (mkI p):=⟨_,rfl⟩;have em:mat ((x :: e).map (mkI p))=mat (r0 :: l):=by rw [hr0,hl];rfl
   rw [<- hr0,<- hl] at gds lle hmz;have G1:pU p [r0]:=⟨gds.pc,gds.i6,gds.hl,fun y hy=>gds.rw y (by simp only [Zt,Zd,or_false] at hy;simp [hy])⟩;have b1:=EV G1 (lim:=n) aa aa af af (fun r hr=>hmz r (by simp only [Zt,Zd,or_false] at hr;simp [hr]))
   have b2:=EV gds (lim:=n) aa aa af aa hmz;obtain ⟨lr0,hr9⟩:=gds.rw r0 af;obtain ⟨qf,zf,ls,R⟩:=rc6 (p:=p) (r:=r0) (lim:=n) p1 hi p3 aa lr0 hr9;have rk:=z8 R aa aa;rw [xI R] at rk
   -- the numbers
   have hls:∀ a b,1<=b->b < a->a<=n->sF p r0 a b=decide (bV p [r0] a * b < bV p [r0] b * a):=by
    intro a b h1 h2 h4;obtain ⟨a1,a2,_⟩:=ju G1 (r:=r0) af (n:=a) aa aa;obtain ⟨c1,c2,_⟩:=ju G1 (r:=r0) af (n:=b) aa aa;have q1:8645700 * b<=8645700 * 100:=Z5 _ aa;have q2:8645700 * a<=8645700 * 100:=Z5 _ aa;have cs:=Pw hi a1 c1 (n:=a) (m:=b) aa aa a2 c2 aa
    unfold sF;rw [DX cs];have e1:bV p [r0] a=vlS p a (dk p a r0):=by unfold bV;rw [Jo G1 aa aa]
    have e2:bV p [r0] b=vlS p b (dk p b r0):=by unfold bV;rw [Jo G1 aa aa]
    rw [e1,e2];have:=@FV (vlS p a (dk p a r0) * b - vlS p b (dk p b r0) * a);by_cases hc:vlS p a (dk p a r0) * b < vlS p b (dk p b r0) * a
    ·rw [decide_eq_true hc,decide_eq_true];rw [this];omega
    ·rw [decide_eq_false hc,decide_eq_false];rw [this];omega
   obtain ⟨f,hf⟩:∃ f,n=f+1:=⟨n - 1,aa⟩;have ebG:∀ V:Nat->Int,bGo V n 1 0=bGo V f 2 1:=fun V=>by rw [hf,bGo,if_pos (.inl rfl)]
   rw [ebG] at b1 b2;have erec:gU (sF p r0) n 1 0=1 :: gU (sF p r0) f 2 1:=by rw [hf,gU,if_pos (.inl rfl)];rfl
   obtain ⟨j1,hj1⟩:∃ j,j=bGo (bV p [r0]) f 2 1:=⟨_,rfl⟩;obtain ⟨j2,hj2⟩:∃ j,j=bGo (bV p (r0 :: l)) f 2 1:=⟨_,rfl⟩;rw [<- hj1] at b1;rw [<- hj2] at b2
   have last:AB (gU (sF p r0) n 1 0) 0=(j1:Int):=by
    rw [erec,AB,hj1];exact Ab hls f 2 1 aa aa aa aa
   obtain ⟨w,hw⟩:∃ w,w=gU (sF p r0) n 1 0:=⟨_,rfl⟩;have wne:w≠[]:=by rw [hw,erec];simp
   rw [<- hw] at rk last;have nl:=CR w 0 0 wne;rw [last] at nl;obtain ⟨⟨j1a,j1b⟩,j1c⟩:=ze (f:=bV p [r0]) f 2 1 aa aa aa;obtain ⟨⟨j2a,j2b⟩,_⟩:=ze (f:=bV p (r0 :: l)) f 2 1 aa aa aa;rw [<- hj1] at j1a j1b j1c;rw [<- hj2] at j2a j2b
   have jmin:=j1c (fun k k1 k2=>by
    have:k=1:=aa;subst this;exact V6 _) j2 j2a aa
   have jge:=VE gds (n:=j2) aa aa;have jfin:bV p [r0] j1 * j2<=bV p (r0 :: l) j2 * j1:=Int.le_trans jmin (Zs jge aa);obtain ⟨d1,d2,d3⟩:=mq G1 (n:=j1) aa aa;obtain ⟨d4,d5,d6⟩:=mq gds (n:=j2) aa aa;have q1:8645700 * j2<=8645700 * 100:=Z5 _ aa
   have q2:8645700 * j1<=8645700 * 100:=Z5 _ aa;have cs:=Pw hi d1 d4 (n:=j1) (m:=j2) aa aa d2 d5 aa;have co:=qH p1 aa d1 d4 d3 d6 cs;obtain ⟨z,hz⟩:∃ z,z=(vlS p j1 (bD p [r0] j1) * j2 - vlS p j2 (bD p (r0 :: l) j2) * j1).sign:=⟨_,rfl⟩;rw [<- hz] at co
   have z0:z<=0:=by
    rw [hz];rcases Ya (vlS p j1 (bD p [r0] j1) * j2 - vlS p j2 (bD p (r0 :: l) j2) * j1) 0 with h | h | h
    ·rw [Y5 h];decide
    ·rw [h];decide
    ·exfalso;unfold bV at jfin;omega
   have snD:∀ h:Hp,aj h [.agg [.d (.int .u8 k),bN i4D (x :: e)]]=some ([.agg [.d (.int .u8 k),bN i4D (x :: e)]],h):=fun h=>by simp [aj,aI,bN]
   have snQ:∀ (h:Hp) (a b:List Q),aj h [lst di p,szV a,szV b]=some ([lst di p,szV a,szV b],h):=fun h a b=>by simp [aj,szV,bN]
   have i1:=fun h=>dO row (r0 :: l) h (k:=.i64) (i:=(0:Int)) aa af
   have i2:=fun h=>eU row [] (r0 :: l) h (j:=0) af
   have hr0':nth [] (r0 :: l) 0=r0:=rfl;have wl:aA (lst di w)=some (I w.length):=rfl
   have wl0:¬ (w.length:Int)=0:=by
    have:w.length≠0:=fun h=>wne (Yw.1 h)
    omega
   have wlen:w.length<=n:=by
    have:∀ f i j,(gU (sF p r0) f i j).length<=f:=by
     intro f
     induction f with
     | zero=>intro i j;simp [gU]
     | succ f ih=>
      intro i j;simp only [gU];split
      ·simp [ih]
      ·exact Z2 (ih _ _) aa
    rw [hw];exact this n 1 0
   have w1:=fun h=>dO di w h (k:=.i64) (i:=((w.length:Int) - 1)) aa aa
   have wt:((w.length:Int) - 1).toNat=w.length - 1:=aa;have w2:=fun h=>eU di 0 w h (j:=w.length - 1) aa
   rw [nl] at w2;rw [wt] at w1
   have sl1:∀ h,slV h 1 (mat (r0 :: l)) none (some (I 1))=some (mat [r0]):=fun h=>by
    have:=R7 row (r0 :: l) h (i:=1) aa am af;simpa using this
   rw [em] at mo;simp (disch:=try exact ac)[bb];refine cd ko ?_;have g3':¬ (3:Int) < (e.length:Int)+1:=by simp at h3;omega
   simp (disch:=try exact ac)[g3,g3',g0];refine cd mo ?_ (snD _);simp (disch:=try exact ac)[Zu,m1,en,i1,i2,hr0'];refine cd rk ?_;simp (disch:=try exact ac)[sl1];refine cd b1 ?_;simp (disch:=try exact ac)[];refine cd b2 ?_;simp (disch:=try exact ac)[wl,wl0];refine cd co ?_ (snQ _ _ _)
   simp (disch:=try exact ac)[w1,w2,z0]
end Go.Vm
