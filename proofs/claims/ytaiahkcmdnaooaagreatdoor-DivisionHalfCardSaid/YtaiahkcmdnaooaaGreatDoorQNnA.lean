/- Described sizes: Primes, part, Fraction. -/
import Derived.Test.YtaiahkcmdnaooaaGreatDoorQLdF
import Derived.Test.YtaiahkcmdnaooaaGreatDoorQT
set_option linter.unusedVariables false
set_option linter.unusedSimpArgs false
namespace Go.Vm
open Go Go.Am Go.Big
def abl:List (List Int):=[[2,3,5],[2,3],[2,3,5,7],[2,3,7],[3,5,7],[2],[2,5,7],[2,3,11],[2,3,5,13],[2,3,7,11]]
def p13 (k:Nat):List Int:=abl.getD (k % 10) []
theorem Vz {p:List Int} {n:Nat} (hp:pcB p=0) (h0:0<n) (h1:n<=10000):dvC p n=0:=by
 unfold dvC;rw [if_pos hp,if_neg aa]
theorem QV {p:List Int} {n:Nat} (hp:pcB p=0) (hN:p.length<=20) (hl:0<p.length) (h0:0<n) (h1:n<=10000) (hr:okS (bY p n)):CP Y F.j6 [lst di p,I n] (.tup [szV (bY p n),I 0]):=by
 refine zA ?_;have dc:=yn (p:=p) (n:=(n:Int)) aa;rw [Vz hp h0 h1] at dc;have st:=BW hp hN hl h0 h1 hr;simp (disch:=try exact ac)[j6];refine cd dc ?_;simp (disch:=try exact ac)[];refine cd st ?_;simp (disch:=try exact ac)[];exact ax (pW _ _) rfl
def upI (x:Int->Int) (p:Int):Int:=if p=2 then x p else x p+1
def jQ (x:Int->Int):List (Int × Int)->Int × Int->Int × Int
 | [],a=>a
 | t::ts,a=>jQ x ts (if t.2<0 then (a.1+upI x t.1*t.2,a.2+x t.1*t.2) else (a.1+x t.1*t.2,a.2+upI x t.1*t.2))
theorem r8 (n:Nat):∀ (ts:List (Int × Int)) (a:Int × Int),aM n ts a=jQ (lgI n) ts a
 | [],a=>rfl
 | t::ts,a=>by
  simp only [aM,jQ,upI,lgI];exact r8 n ts _
def fxI (p:Int):Int:=((t6 p.toNat).getD 0:Nat)
theorem rZ {most:Int}:∀ (ts:List (Int × Int)) (a r:Int × Int),fM most ts a=some r->r=jQ fxI ts a
 | [],a,r,h=>by
  simp only [fM,Z9] at h;exact h.symm
 | t::ts,a,r,h=>by
  simp only [fM] at h;split at h
  ·cases h
  ·split at h
   ·cases h
   ·rename_i f hf;have hx:fxI t.1=(f:Int):=by unfold fxI;rw [hf];rfl
    have ih:=rZ ts _ r h;rw [ih,jQ];congr 1;unfold upI;rw [hx];obtain ⟨b,hb⟩:∃ b:Int,b=if t.1=2 then (f:Int) else f+1:=⟨_,rfl⟩
    rw [<- hb];have hfb:(f:Int)<=b:=by rw [hb];split <;> omega
    by_cases hn:t.2<0
    ·rw [if_pos hn];have:t.2*b<=t.2*f:=Xm aa hfb;rw [Int.min_eq_right this,Int.max_eq_left this,Y9 b,Y9 (f:Int)]
    ·rw [if_neg hn];have:t.2*f<=t.2*b:=Ze hfb aa;rw [Int.min_eq_left this,Int.max_eq_right this,Y9 b,Y9 (f:Int)]
theorem uJ {x:Int->Int}:∀ (ts:List (Int × Int)) (a:Int × Int),jQ x ts a=(a.1+(jQ x ts (0,0)).1,a.2+(jQ x ts (0,0)).2)
 | [],a=>by simp [jQ]
 | t::ts,a=>by
  simp only [jQ];split
  ·rw [uJ ts,uJ ts (0+_,0+_)];simp only [X3,Wr]
  ·rw [uJ ts,uJ ts (0+_,0+_)];simp only [X3,Wr]
theorem BV {x x':Int->Int} {K:Int} (hK:0<=K):∀ ts:List (Int × Int),(∀ t∈ts,x t.1*K<=x' t.1∧upI x' t.1<=upI x t.1*K)->(jQ x ts (0,0)).1*K<=(jQ x' ts (0,0)).1∧(jQ x' ts (0,0)).2<=(jQ x ts (0,0)).2*K
 | [],_=>by simp [jQ]
 | t::ts,h=>by
  obtain ⟨h1,h2⟩:=h t af;obtain ⟨i1,i2⟩:=BV hK ts fun u hu=>h u (by simp [hu])
  simp only [jQ];rw [uJ ts,uJ (x:=x') ts];by_cases hn:t.2<0
  ·rw [if_pos hn,if_pos hn];simp only [X3,Ye];have m1:=Int.mul_le_mul_of_nonpos_right h2 (by omega:t.2<=0);have m2:=Int.mul_le_mul_of_nonpos_right h1 (by omega:t.2<=0);rw [Y7] at m1 m2;constructor <;> omega
  ·rw [if_neg hn,if_neg hn];simp only [X3,Ye];have m1:=Zw h1 (by omega:0<=t.2);have m2:=Zw h2 (by omega:0<=t.2);rw [Y7] at m1 m2;constructor <;> omega
def zm (x:Int->Int) (K:Nat) (p:Int):Bool:=decide (x p*K<=lgI 512 p) && decide (upI (lgI 512) p<=upI x p*K)
theorem F7:∀ p∈c6P,zm fxI (2 ^ 486) p=true∧zm (lgI 64) (2 ^ 448) p=true∧zm (lgI 128) (2 ^ 384) p=true∧zm (lgI 256) (2 ^ 256) p=true:=aJ
theorem HO {x:Int->Int} {K:Nat} {ts:List (Int × Int)} (h:∀ t∈ts,zm x K t.1=true):(jQ x ts (0,0)).1*K<=(jQ (lgI 512) ts (0,0)).1∧(jQ (lgI 512) ts (0,0)).2<=(jQ x ts (0,0)).2*K:=by
 refine BV aa ts fun t ht=>?_
 have:=h t ht;simp only [zm,Z8,decide_eq_true_eq] at this;exact this
theorem FW {x:Int->Int} {K:Nat} {ts:List (Int × Int)} (h:∀ t∈ts,zm x K t.1=true) (hT:gk (lgI 512) ts≠0) :
  (0<=(jQ x ts (0,0)).1->(gk (lgI 512) ts).sign=1)∧((jQ x ts (0,0)).2<=0->(gk (lgI 512) ts).sign = -1):=by
 obtain ⟨n1,n2⟩:=HO h;obtain ⟨g1,g2,_⟩:=mT 512 ts;rw [r8] at g1 g2;refine ⟨fun h0=>?_,fun h0=>?_⟩
 ·have:=Yi h0 (by omega:(0:Int)<=K);exact X0 aa
 ·have:=Yi (a:=-(jQ x ts (0,0)).2) (b:=(K:Int)) aa aa;rw [Xw] at this;exact Yd aa
theorem Tf {ts:List (Int × Int)} (hT:gk (lgI 512) ts≠0) :
  (0<=(aM 512 ts (0,0)).1->(gk (lgI 512) ts).sign=1)∧((aM 512 ts (0,0)).2<=0->(gk (lgI 512) ts).sign = -1):=by
 obtain ⟨g1,g2,_⟩:=mT 512 ts;exact ⟨fun h0=>X0 aa,fun h0=>Yd aa⟩
theorem R3 {ts:List (Int × Int)} (hm:∀ t∈ts,t.1∈c6P) (hn:(ts.map Prod.fst).Nodup) (h0:∀ t∈ts,t.2≠0) (hl:ts.length<=6) (hb:∀ t∈ts,t.2.natAbs<9223372036854775808):wi ts=some (gk (lgI 512) ts).sign:=by
 cases ts with
 | nil=>rfl
 | cons t l=>
  obtain ⟨ts,hts⟩:∃ ts,ts=t::l:=⟨_,rfl⟩;have hne:ts≠[]:=by rw [hts];simp
  rw [<- hts] at hm hn h0 hl hb ⊢;have h1:=vZ (C:=9223372036854775808) ts fun t ht=>V8 (hb t ht)
  have h2:ts.length*9223372036854775808<=6*9223372036854775808:=Z4 _ hl;have hb1:dI ts<=73786976294838206464:=aa
  have hT:gk (lgI 512) ts≠0:=by
   intro e;have hz:=xP (n:=512) Ak rfl Ma hm hb1 (by rw [e];simp);rw [hts] at hz hm hn h0;have:=hz t.1 (hm t af);simp only [Zz,W0] at hn;rw [cfT,if_pos rfl,Ai l hn.1] at this;exact h0 t af aa
  have dec:=KW (n:=512) Ak rfl Ma hm hn h0 hb1 hb1 hne;obtain ⟨f1,f2⟩:=FW (x:=fxI) (K:=2 ^ 486) (fun t ht=>(F7 _ (hm t ht)).1) hT;have e:wi ts=if lH ts≠0 then some (lH ts) else xG ts 6 64:=by rw [hts];rfl
  rw [e];by_cases hq:lH ts≠0
  ·rw [if_pos hq];unfold lH at hq ⊢;split at hq
   ·exact absurd rfl hq
   ·rename_i a ha;have ea:=rZ _ _ _ ha;rw [<- ea] at f1 f2;by_cases c1:0<=a.1
    ·rw [if_pos c1,f1 c1]
    ·rw [if_neg c1];rw [if_neg c1] at hq;by_cases c2:a.2<=0
     ·rw [if_pos c2,f2 c2]
     ·rw [if_neg c2] at hq;exact absurd rfl hq
  ·rw [if_neg hq]
   have step:∀ (r n:Nat) (nx:Option Int),(0<=(aM n ts (0,0)).1->(gk (lgI 512) ts).sign=1)->((aM n ts (0,0)).2<=0->(gk (lgI 512) ts).sign = -1)->(xG ts r (n*2)=some (gk (lgI 512) ts).sign∨(0<=(aM n ts (0,0)).1∨(aM n ts (0,0)).2<=0))->xG ts (r+1) n=some (gk (lgI 512) ts).sign:=by
    intro r n nx a1 a2 a3;unfold xG;by_cases c1:0<=(aM n ts (0,0)).1
    ·rw [if_pos c1,a1 c1]
    ·rw [if_neg c1];by_cases c2:(aM n ts (0,0)).2<=0
     ·rw [if_pos c2,a2 c2]
     ·rw [if_neg c2];rcases a3 with h | h | h
      ·exact h
      ·exact absurd h c1
      ·exact absurd h c2
   have l64:=FW (x:=lgI 64) (K:=2 ^ 448) (fun t ht=>(F7 _ (hm t ht)).2.1) hT;have l128:=FW (x:=lgI 128) (K:=2 ^ 384) (fun t ht=>(F7 _ (hm t ht)).2.2.1) hT;have l256:=FW (x:=lgI 256) (K:=2 ^ 256) (fun t ht=>(F7 _ (hm t ht)).2.2.2) hT;rw [<- r8] at l64 l128 l256;have l512:=Tf hT
   exact step 5 64 none l64.1 l64.2 (.inl (step 4 128 none l128.1 l128.2 (.inl (step 3 256 none l256.1 l256.2 (.inl (step 2 512 none l512.1 l512.2 (.inr dec)))))))
def rpl (b:Nat):List Q->List Int->Prop
 | x::s,a::r=>rp b x a∧rpl b s r
 | [],[]=>True
 | _,_=>False
def uP (z:Int):List Int->List Int->List Int
 | a::r,c::t=>(a+z*c)::uP z r t
 | _,_=>[]
theorem rL {b:Nat}:∀ {s:List Q} {r:List Int},rpl b s r->r.length=s.length
 | [],[],_=>rfl
 | x::s,a::r,h=>by simp [rL h.2]
 | [],_::_,h=>h.elim
 | _::_,[],h=>h.elim
theorem qK {b:Nat} (z:Int):∀ {o s:List Q} {r t:List Int},o.length=s.length->rpl b o r->rpl b s t->rpl b (js (z,1) o s) (uP z r t)
 | [],[],[],[],_,_,_=>trivial
 | x::o,y::s,a::r,c::t,hl,h1,h2=>by
  simp only [js,uP];exact ⟨Ju h1.1 (E9 z h2.1),qK z (by simpa using hl) h1.2 h2.2⟩
 | [],_::_,_,_,hl,_,_=>by simp at hl
 | _::_,[],_,_,hl,_,_=>by simp at hl
 | [],[],_::_,_,_,h,_=>h.elim
 | [],[],[],_::_,_,_,h=>h.elim
 | _::_,_::_,[],_,_,h,_=>h.elim
 | _::_,_::_,_::_,[],_,_,h=>h.elim
theorem qJ (b:Nat):∀ n:Nat,rpl b (List.replicate n (0,1)) (List.replicate n 0)
 | 0=>trivial
 | n+1=>by
  rw [List.replicate_succ,List.replicate_succ];exact ⟨zN b,qJ b n⟩
theorem ut {b:Nat} (m:Nat):∀ {s:List Q} {r:List Int},rpl b s r->rpl (b*m) s (r.map fun a=>a*m)
 | [],[],_=>trivial
 | x::s,a::r,h=>⟨He m h.1,ut m h.2⟩
 | [],_::_,h=>h.elim
 | _::_,[],h=>h.elim
theorem qW (z:Int):∀ {r t L:List Int},r.length=t.length->bw (uP z r t) L=bw r L+z*bw t L
 | [],[],L,_=>by simp [uP,bw]
 | a::r,c::t,[],_=>by simp [uP,bw]
 | a::r,c::t,l::L,h=>by
  simp only [uP,bw,qW z (r:=r) (t:=t) (L:=L) (by simpa using h),Ye,Wh,Int.mul_assoc];omega
 | [],_::_,_,h=>by simp at h
 | _::_,[],_,h=>by simp at h
theorem pf:∀ (n:Nat) (L:List Int),bw (List.replicate n 0) L=0
 | 0,L=>by simp [bw]
 | n+1,[]=>by simp [List.replicate_succ,bw]
 | n+1,l::L=>by simp [List.replicate_succ,bw,pf n L]
theorem uL (m:Int):∀ (r L:List Int),bw (r.map fun a=>a*m) L=bw r L*m
 | [],L=>by simp [bw]
 | a::r,[]=>by simp [bw]
 | a::r,l::L=>by
  simp only [Zz,bw,uL m r L,Ye];rw [Y7]
theorem GH (z:Int):∀ {r t:List Int},r.length=t.length->(uP z r t).length=r.length
 | [],[],_=>rfl
 | a::r,c::t,h=>by simp [uP,GH z (r:=r) (t:=t) (by simpa using h)]
 | [],_::_,h=>by simp at h
 | _::_,[],h=>by simp at h
theorem OF {b B:Nat}:∀ {s:List Q} {r:List Int},rpl b s r->(∀ a∈r,a.natAbs<=B)->bdL b B s
 | [],[],_,_=>fun x hx=>by simp at hx
 | x::s,a::r,h,hb=>by
  have ih:=OF h.2 fun c hc=>hb c (by simp [hc])
  intro y hy;simp only [Zr] at hy;rcases hy with rfl | hy
  ·exact ⟨a,h.1,hb a af⟩
  ·exact ih y hy
 | [],_::_,h,_=>h.elim
 | _::_,[],h,_=>h.elim
theorem Rp {b B:Nat}:∀ {s:List Q},bdL b B s->∃ r,rpl b s r∧∀ a∈r,a.natAbs<=B
 | [],_=>⟨[],trivial,fun a h=>by simp at h⟩
 | x::s,h=>by
  obtain ⟨a,h1,h2⟩:=h x af;obtain ⟨r,h3,h4⟩:=Rp (s:=s) fun y hy=>h y (by simp [hy])
  refine ⟨a::r,⟨h1,h3⟩,fun c hc=>?_⟩;simp only [Zr] at hc;rcases hc with rfl | hc
  ·exact h2
  ·exact h4 c hc
theorem AA {b d:Nat} (h:Int->Int) (hb:0<b) (hd:d ∣ b):∀ {p:List Int} {s:List Q} {r:List Int},s.length=p.length->rpl b s r->(∀ x∈s,x.2 ∣ d)->gk h (dh d p s)*((b / d:Nat):Int)=bw r (p.map h)
 | [],[],[],_,_,_=>by simp [dh,gk,bw]
 | c::p,x::s,a::r,hl,hr,hv=>by
  have ih:=AA h hb hd (p:=p) (s:=s) (r:=r) (by simpa using hl) hr.2 fun y hy=>hv y (by simp [hy])
  have hx:=hv x af;have p1:=hr.1.1.1;have d0:0<d:=Nat.pos_of_dvd_of_pos hd hb
  have key:x.1*((d / x.2:Nat):Int)*((b / d:Nat):Int)=a:=by
   obtain ⟨u,hu⟩:=hx;obtain ⟨v,hv'⟩:=hd;have e1:d / x.2=u:=by rw [hu];exact Y4 _ p1
   have e2:b / d=v:=by rw [hv'];exact Y4 _ d0
   rw [e1,e2];have h2:=hr.1.2;rw [hv',hu,Int.natCast_mul,Int.natCast_mul] at h2;refine Yo (a:=(x.2:Int)) aa ?_;rw [<- h2];simp only [Y9,Wz,Int.mul_assoc]
  simp only [dh];split
  ·rename_i h0;rw [h0] at key;simp only [Int.zero_mul] at key;rw [ih,Zz,bw,<- key];simp
  ·rw [gk,Ye,ih,Zz,bw];simp only;rw [Y7,key]
 | [],_::_,_,hl,_,_=>by simp at hl
 | _::_,[],_,hl,_,_=>by simp at hl
 | [],[],_::_,_,h,_=>h.elim
 | _::_,_::_,[],_,h,_=>h.elim
theorem E4 {z k:Int} (hk:0<k):(z*k).sign=z.sign:=by
 rw [Int.sign_mul,X0 hk,Int.mul_one]
def L5 (p:List Int):List Int:=p.map (lgI 512)
theorem Ov {p:List Int} {s:List Q} {r:List Int} {b B:Nat} (hp:in6 p) (hl:s.length=p.length) (hb:0<b) (hr:rpl b s r) (hB:∀ a∈r,a.natAbs<=B) (hB2:B<9223372036854775808):uQ p s ((bw r (L5 p)).sign):=by
 have bd:=OF hr hB;have h1:=EJ hp hb bd hB2;have hd:∀ x∈s,0<x.2:=fun x hx=>(yV hb bd x hx).1
 have hll:(tq p s).length<=6:=by
  have:=oZ (d:=dN 1 s) p s;have:=hp.2.1;unfold tq;omega
 have dv:∀ x∈s,x.2 ∣ dN 1 s:=fun x hx=>(nZ (s:=s) (d:=1)).2 x hx
 have d0:0<dN 1 s:=kP ae hd;have dd:=vR bd;have hs:=R3 (og hp) (AF hp.1) (AG d0 fun x hx=>⟨hd x hx,dv x hx⟩) hll fun t ht=>(h1.2 t ht).2.2
 refine ⟨Fl h1,F8 (og hp),?_⟩;rw [hs];have:=AA (lgI 512) hb dd hl hr dv;unfold L5;rw [<- this,E4]
 ·rfl
 ·have:=V9 (X6 hb dd) d0;omega
theorem YY {p:List Int} {a b:List Q} {r t:List Int} {n m A B:Nat} (hp:in6 p) (la:a.length=p.length) (lb:b.length=p.length) (n0:0<n) (m0:0<m) (ha:rpl n a r) (hb:rpl m b t) (hA:∀ x∈r,x.natAbs<=A) (hB:∀ x∈t,x.natAbs<=B) (hC:A*m+B*n<9223372036854775808) :
  uQ p (dfS p a b) ((bw r (L5 p)*m-bw t (L5 p)*n).sign):=by
 have lr:=rL ha;have lt:=rL hb;have r1:=ut m ha;have r2:=ut n hb;rw [Zy m n] at r2;have z:=qJ (n*m) p.length;have s1:=qK 1 (by simp [la]) z r1;have s2:=qK (-1) (by rw [pR _ _ _ (by simp [la]),la,lb]) s1 r2;have e:js (-1,1) (js (1,1) (List.replicate p.length (0,1)) a) b=dfS p a b:=by simp [dfS,ix,pT]
 rw [e] at s2;have h1:(uP 1 (List.replicate p.length 0) (r.map fun a=>a*(m:Int))).length=p.length:=by rw [GH _ (by simp [lr,la])];simp
 have hd:bw (uP (-1) (uP 1 (List.replicate p.length 0) (r.map fun a=>a*(m:Int))) (t.map fun a=>a*(n:Int))) (L5 p)=bw r (L5 p)*m-bw t (L5 p)*n:=by
  rw [qW _ (by rw [h1];simp [lt,lb]),qW _ (by simp [lr,la]),pf,uL,uL];omega
 have ld:(dfS p a b).length=p.length:=by rw [<- e,pR _ _ _ (by rw [pR _ _ _ (by simp [la]),la,lb]),lb]
 rw [<- hd];refine Ov hp ld (Yr n0 m0) s2 (B:=A*m+B*n) ?_ hC
 have vb:∀ (z:Int) (X Y:Nat) (u v:List Int),(∀ x∈u,x.natAbs<=X)->(∀ x∈v,x.natAbs<=Y)->∀ x∈uP z u v,x.natAbs<=X+z.natAbs*Y:=by
  intro z X Y u
  induction u with
  | nil=>intro v _ _ x hx;simp [uP] at hx
  | cons a u ih=>
   intro v h1 h2 x hx;cases v with
   | nil=>simp [uP] at hx
   | cons c v=>
    simp only [uP,Zr] at hx;rcases hx with rfl | hx
    ·have q1:=h1 a af;have q2:=h2 c af;have q3:=Wm a (z*c);rw [Zn] at q3;have q4:=Z3 z.natAbs q2;omega
    ·exact ih v (fun y hy=>h1 y (by simp [hy])) (fun y hy=>h2 y (by simp [hy])) x hx
 have q1:∀ x∈r.map (fun a=>a*(m:Int)),x.natAbs<=A*m:=fun x hx=>by
  obtain ⟨y,hy,rfl⟩:=Zg.1 hx;rw [Zn,Int.natAbs_natCast];exact Z4 _ (hA y hy)
 have q2:∀ x∈t.map (fun a=>a*(n:Int)),x.natAbs<=B*n:=fun x hx=>by
  obtain ⟨y,hy,rfl⟩:=Zg.1 hx;rw [Zn,Int.natAbs_natCast];exact Z4 _ (hB y hy)
 have q3:=vb 1 0 (A*m) (List.replicate p.length 0) _ (fun x hx=>by rw [X9] at hx;rw [hx.2];simp) q1;have q4:=vb (-1) _ (B*n) _ _ q3 q2;intro x hx;have:=q4 x hx;simpa using this
structure Cn (p:List Int) (l:List Rw):Prop where
 pc:pcB p=0
 i6:in6 p
 hl:0<p.length
 rw:∀ r∈l,r.length=p.length∧∀ x∈r,x.natAbs<=9
def CO (b:Nat) (s:List Q):List Int:=s.map fun x=>x.1*((b / x.2:Nat):Int)
theorem E8 {b:Nat}:∀ {s:List Q} {r:List Int},rpl b s r->r=CO b s
 | [],[],_=>rfl
 | x::s,a::r,h=>by
  have ih:=E8 h.2;obtain ⟨⟨hx,e⟩,_⟩:=h;obtain ⟨u,hu⟩:=xI ⟨hx,e⟩;have p1:=hx.1;have e1:b / x.2=u:=by rw [hu];exact Y4 _ p1
  have:a=x.1*(u:Int):=by
   refine Yo (a:=(x.2:Int)) aa ?_;rw [<- e,hu,Int.natCast_mul,Int.mul_assoc,Y9 (x.2:Int)]
  simp only [CO,Zz];rw [e1,this,ih];rfl
 | [],_::_,h=>h.elim
 | _::_,[],h=>h.elim
theorem nO {b B:Nat} {s:List Q} (h:bdL b B s):rpl b s (CO b s)∧∀ a∈CO b s,a.natAbs<=B:=by
 obtain ⟨r,h1,h2⟩:=Rp h;have e:=E8 h1;subst e;exact ⟨h1,h2⟩
def vlS (p:List Int) (n:Nat) (s:List Q):Int:=bw (CO n s) (L5 p)
theorem abE {p:List Int} {a b:List Q} {n m A B:Nat} (hp:in6 p) (la:a.length=p.length) (lb:b.length=p.length) (n0:0<n) (m0:0<m) (ha:bdL n A a) (hb:bdL m B b) (hC:A*m+B*n<9223372036854775808) :
  uQ p (dfS p a b) ((vlS p n a*m-vlS p m b*n).sign):=by
 obtain ⟨h1,h2⟩:=nO ha;obtain ⟨h3,h4⟩:=nO hb;exact YY hp la lb n0 m0 h1 h3 h2 h4 hC
def zQ (p:List Int):List Q:=List.replicate p.length (0,1)
theorem Ou {x:Int}:(x.sign<0)=(x<0):=by
 rcases Int.lt_trichotomy x 0 with h | h | h
 ·rw [Yd h];simp;omega
 ·rw [h];simp
 ·rw [X0 h];simp;omega
abbrev I4:=Int × Int × Int × Int
def i4D (x:I4):List D:=[.int .i8 x.1,.int .i8 x.2.1,.int .i8 x.2.2.1,.int .i8 x.2.2.2]
theorem LD (x:I4):(i4D x).length=4:=rfl
def i4L (x:I4):List Int:=[x.1,x.2.1,x.2.2.1,x.2.2.2]
def ok4 (x:I4):Prop:=(-128<=x.1∧x.1<=127)∧(-128<=x.2.1∧x.2.1<=127)∧(-128<=x.2.2.1∧x.2.2.1<=127)∧(-128<=x.2.2.2∧x.2.2.2<=127)
def mkI (p:List Int) (x:I4):Rw:=itv p.length (i4L x)
def m3H (k:Nat) (e:List I4) (p:List Int) (i:Nat):Hp:=[(1,.vars [.d (.int .u8 k),cX i4D e]),acL.b i ((e.map fun x=>row (mkI p x)).take i)]
def m3V (e:List I4) (p:List Int) (i:Nat):V:=acL.v i ((e.map fun x=>row (mkI p x)).take i)
theorem Lp {p:List Int} {e:List I4} {kk:Nat} (he:e.length<=6) (hb:∀ x∈e,ok4 x) (hp:p.length<=4) (k:KL) (h0:Hp) (hh:h0.length=2):∀ (f i:Nat),i+f=e.length ->
  k (.exit 0) [m3V e p e.length] (m3H kk e p e.length) ->
  lp (iG (CX Y) (.ptr 0 1 0 2) (lst di p)) [] h0 [m3V e p i,I i] (m3H kk e p i) k
 | 0,i,hi,hk=>by
  have:i=e.length:=aa;subst this;refine av ?_;unfold m3H at hk ⊢;simp (disch:=try exact ac)[iG];simpa using hk
 | f+1,i,hi,hk=>by
  have g:(i:Int)<(e.length:Int):=aa;have g6:(i:Int)<6:=aa;have hlt:i<e.length:=aa;obtain ⟨x,hx⟩:∃ x,x=nth (0,0,0,0) e i:=⟨_,rfl⟩;have hx2:e[i]? = some x:=by rw [hx,fL _ e i hlt];exact List.getElem?_eq_getElem hlt
  have hm:=hb x (Ym hx2);have io:CP Y F.cV [lst di p,.agg [i8V x.1,i8V x.2.1,i8V x.2.2.1,i8V x.2.2.2]] (lst di (mkI p x)):=Jb hm.1 hm.2.1 hm.2.2.1 hm.2.2.2 hp;have i1:=fun h=>kq i4D LD e h (k:=.i64) (i:=(i:Int)) aa aa
  have i2:=fun h=>ko i4D LD (0,0,0,0) e h (j:=i) hlt
  rw [<- hx] at i2;simp only [Int.toNat_natCast] at i1;have i2':∀ h,ldA h 4 (.dptr (e.flatMap i4D) (i*4))=some (.agg [i8V x.1,i8V x.2.1,i8V x.2.2.1,i8V x.2.2.2]):=i2;have ih:=Lp (kk:=kk) he hb hp k h0 hh f (i+1) aa hk
  have es:(e.map fun x=>row (mkI p x)).take (i+1)=(e.map fun x=>row (mkI p x)).take i++[row (mkI p x)]:=by
   rw [Wo,List.getElem?_map,hx2];simp
  have lc:((e.map fun x=>row (mkI p x)).take i).length=i*acL.n:=by simp [acL];omega
  have li1:∀ (H:Hp),dE 1 [D.pl (Value.slice none 0 0)] [(0,lst di (mkI p x))] H=some ([row (mkI p x)],H):=fun H=>Bz ..
  have cG:∀ y z w:Nat × Bk,([y,z]:Hp).set acL.s w=[y,w]:=fun y z w=>rfl
  have hre:∀ y:Hp,y.length=2->aG [] 0 h0 y=y:=fun y hy=>cW 0 h0 y aa
  have ev:∀ c,acL.v (i+1) c=.ref acL.s (acL.e+1) 0 (i+1) (i+1) c.length:=fun c=>rfl
  have eb:∀ c,acL.b (i+1) c=(acL.e+1,.data acL.n c false false):=fun c=>rfl
  have ofv:offB [] (.vars [.d (.int .u8 kk),cX i4D e])=true:=rfl;have sn:∀ h,ai h [lst di p,.agg [i8V x.1,i8V x.2.1,i8V x.2.2.1,i8V x.2.2.2]]=some ([lst di p,.agg [i8V x.1,i8V x.2.1,i8V x.2.2.1,i8V x.2.2.2]],h):=fun h=>by simp [ai,aI,i8V]
  refine av ?_;simp (disch:=try exact ac)[iG,m3H,g,g6,i1,i2'];refine cd io ?_ (sn _);simp (disch:=try exact ac)[li1];unfold m3V;refine m5 acL (k:=1) aa rfl lc (by rfl) rfl (fun t e=>by cases e) aa ae ?_;unfold m3V m3H at ih;rw [es] at ih
  simp (disch:=try exact ac)[cG,hre,clean,fE,oC,ow,eh,k9,ofv,ev,eb];refine ⟨rfl,?_⟩;have hmin:min i e.length=i:=aa;simpa [ev,eb,hmin] using ih
theorem DV {e:List I4} {k:Nat} (hk:k<256) (he:e.length<=6) (hb:∀ x∈e,ok4 x):CP Y F.eN [.agg [.d (.int .u8 k),cX i4D e]] (.tup [lst di (u9 k),mat (e.map (mkI (u9 k)))]):=by
 refine uS ?_;obtain ⟨p1,p2,p3,p4,p5⟩:=Pq _ (xM k);obtain ⟨p,hp⟩:∃ p,p=u9 k:=⟨_,rfl⟩;rw [<- hp] at p1 p2 p3 p4 p5 ⊢;have pk:=Hz hk;rw [<- hp] at pk;have lc:(e.map fun x=>row (mkI p x)).length=e.length*acL.n:=by simp [acL]
 have ll:=Lp (p:=p) (kk:=k) he hb p4 (exK [((.exit 0),fun l5 h=>out (.tup [lst di p,mat (e.map (mkI p))]) (.tup [lst di p,(ge l5 0)]) h)]) (m3H k e p 0) rfl e.length 0 aa (by
  obtain ⟨h',q1,_⟩:=lU acL (L:=e.length) (cells:=e.map fun x=>row (mkI p x)) (h:=m3H k e p e.length) (by rw [m3H,Zx af];rfl) lc;simp only [exK,m3V];rw [Zx af];have em:mat (e.map (mkI p))=.d (.sl e.length (e.map fun x=>row (mkI p x))):=by simp [lst]
  rw [em];exact ax (pu _ _ _) q1)
 simp (disch:=try exact ac)[eN];refine cd pk ?_;simp (disch:=try exact ac)[];exact ll
theorem D8 {k:Nat} {e:List I4}:CP Y F.eO [.agg [.d (.int .u8 k),cX i4D e]] (B (decide (e.length<=6))):=by
 refine uT ?_;have e1:(decide ((e.length:Int)<=6))=decide (e.length<=6):=decide_eq_decide.2 aa;simp (disch:=try exact ac)[eO];exact iJ e1
theorem P7 {p:List Int} {l:List Rw} (G:Cn p l) (hN:l.length<=60) {n:Nat} (n0:0<n) (n1:n<=10000):VO p n l (eD p n) where
 cn:=⟨hN,fun r hr=>by
  obtain ⟨lr,h9⟩:=G.rw r hr;obtain ⟨q,E,_⟩:=er6 G.pc G.i6 G.hl n0 n1 lr h9;rw [qQ E];exact E⟩
 pl:=G.i6.2.1
 r9:=fun r hr=>(G.rw r hr).2
theorem GR {A:List (List Q)} (hN:A.length<1000000) (hl:∀ s∈A,s.length<1000000) (k:KL):∀ (q a:List (List Q)),a++q=A->k (.exit 0) [] [] ->
  lp (fk (CX Y) (lst szD A) (lst szD A)) [] [] [I a.length] [] k
 | [],a,ha,hk=>by
  simp at ha;subst ha;have l1:bC (lst szD a)=some (I a.length):=rfl;refine av ?_;simp (disch:=try exact ac)[fk,l1];exact hk
 | s::q,a,ha,hk=>by
  have hal:a.length<A.length:=by subst ha;simp
  have hs:nth [] A a.length=s:=by subst ha;simp
  have l1:bC (lst szD A)=some (I A.length):=rfl;have i1:=cC szD A [] (k:=.i64) (i:=(a.length:Int)) aa aa;have i2:=dy szD [] A [] (j:=a.length) hal;rw [hs] at i2;simp only [Int.toNat_natCast] at i1;have g1:(a.length:Int)<(A.length:Int):=aa;have eq:=x8 (s:=s) (t:=s) (hl s (by rw [<- ha];simp));rw [decide_eq_true rfl] at eq
  have ih:=GR hN hl k q (a++[s]) (by simpa using ha) hk;refine av ?_;simp (disch:=try exact ac)[fk,l1,i1,i2,g1];refine cd eq ?_ (by simp [ai,aI,HP]);simp (disch:=try exact ac)[];simpa using ih
theorem UJ {A:List (List Q)} (hN:A.length<1000000) (hl:∀ s∈A,s.length<1000000):CP Y F.dF [lst szD A,lst szD A] (B true):=by
 refine ql ?_;have l1:bC (lst szD A)=some (I A.length):=rfl;simp (disch:=try exact ac)[dF,l1];refine lo (GR hN hl _ A [] rfl ?_);simp (disch:=try exact ac)[]
end Go.Vm
