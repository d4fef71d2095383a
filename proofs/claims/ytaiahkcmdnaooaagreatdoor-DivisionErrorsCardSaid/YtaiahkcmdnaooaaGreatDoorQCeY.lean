/- Signs of sizes over small primes are decided. -/
import Derived.Test.YtaiahkcmdnaooaaGreatDoorQDcY
import Derived.Test.YtaiahkcmdnaooaaGreatDoorQDv
import Derived.Test.YtaiahkcmdnaooaaGreatDoorQT
set_option linter.unusedVariables false
set_option linter.unusedSimpArgs false
namespace Go.Vm
open Go Go.Am Go.Big
def nV (h:Int->Int):List (Int × Int)->Int
 | []=>0
 | t::ts=>t.2*h t.1+nV h ts
def dp:List (Int × Int)->Nat
 | []=>0
 | t::ts=>t.2.natAbs+dp ts
def cfT:List (Int × Int)->Int->Int
 | [],_=>0
 | t::ts,c=>(if t.1=c then t.2 else 0)+cfT ts c
theorem rV (n:Nat):∀ ts:List (Int × Int),(aU n ts (0,0)).1<=nV (lgI n) ts∧nV (lgI n) ts<=(aU n ts (0,0)).2∧(aU n ts (0,0)).2-(aU n ts (0,0)).1<=dp ts
 | []=>by simp [aU,nV,dp]
 | t::ts=>by
  obtain ⟨h1,h2,h3⟩:=rV n ts;obtain ⟨x,hx⟩:∃ x:Int,x=lg t.1 n:=⟨_,rfl⟩;obtain ⟨y,hy⟩:∃ y:Int,y=if t.1=2 then x else x+1:=⟨_,rfl⟩
  have hxy:y=x∨y=x+1:=by rw [hy];split <;> simp
  have e:aU n (t::ts) (0,0)=aU n ts (if t.2<0 then (0+y*t.2,0+x*t.2) else (0+x*t.2,0+y*t.2)):=by
   rw [hy,hx];rfl
  have e2:nV (lgI n) (t::ts)=t.2*x+nV (lgI n) ts:=by rw [hx];rfl
  rw [e,e2,qq ts];simp only [dp,Wo]
  have m1:y*t.2=x*t.2∨y*t.2=x*t.2+t.2:=by
   rcases hxy with h | h
   ·left;rw [h]
   ·right;rw [h,Wu,Int.one_mul]
  rw [Yl t.2 x];by_cases hn:t.2<0
  ·rw [if_pos hn];simp only;omega
  ·rw [if_neg hn];simp only;omega
theorem GQ (f g:Int->Int):∀ (P L:List Int),eJ (P.map fun c=>f c+g c) L=eJ (P.map f) L+eJ (P.map g) L
 | [],L=>by simp [eJ]
 | p::P,[]=>by simp [eJ]
 | p::P,l::L=>by
  simp only [Zu,eJ,GQ f g P L,Wu];omega
theorem GP (h:Int->Int) (a z:Int):∀ P:List Int,a ∉ P->eJ (P.map fun c=>if a=c then z else 0) (P.map h)=0
 | [],_=>by simp [eJ]
 | p::P,hn=>by
  simp only [Zr,not_or] at hn;simp [eJ,hn.1,GP h a z P hn.2]
theorem J9 (h:Int->Int) (a z:Int):∀ P:List Int,P.Nodup->a∈P->eJ (P.map fun c=>if a=c then z else 0) (P.map h)=z*h a
 | [],_,hm=>by simp at hm
 | p::P,hn,hm=>by
  rw [Xs] at hn;by_cases e:a=p
  ·subst e;simp [eJ,GP h a z P hn.1]
  ·have:a∈P:=by simpa [e] using hm
   simp [eJ,e,J9 h a z P hn.2 this]
theorem E8 (h:Int->Int) {P:List Int} (hP:P.Nodup):∀ ts:List (Int × Int),(∀ t∈ts,t.1∈P)->nV h ts=eJ (P.map (cfT ts)) (P.map h)
 | [],_=>by
  have:∀ P:List Int,eJ (P.map (cfT [])) (P.map h)=0:=by
   intro P
   induction P with
   | nil=>rfl
   | cons p P ih=>rw [Zu,Zu,eJ,ih];simp [cfT]
  rw [this];rfl
 | t::ts,hm=>by
  rw [nV,E8 h hP ts fun u hu=>hm u (by simp [hu])];have:cfT (t::ts)=fun c=>(if t.1=c then t.2 else 0)+cfT ts c:=by funext c;rfl
  rw [this,GQ,J9 h t.1 t.2 P hP (hm t af)]
theorem Ph (c:Int):∀ ts:List (Int × Int),(cfT ts c).natAbs<=dp ts
 | []=>by simp [cfT]
 | t::ts=>by
  have:=Ph c ts;simp only [cfT,dp];split <;> omega
theorem EB {c:Int}:∀ ts:List (Int × Int),c ∉ ts.map Prod.fst->cfT ts c=0
 | [],_=>rfl
 | t::ts,h=>by
  simp only [Zu,Zr,not_or] at h;rw [cfT,if_neg (fun e=>h.1 e.symm),EB ts h.2];rfl
theorem Ct {P:List Int} {k E B G n:Nat} {rs:List A1} {V:List (List Int)} (hc:CZ k E B G (P.map (lgI n)) rs V=true) (hk:P.length=k) (hP:P.Nodup) {ts:List (Int × Int)} (hm:∀ t∈ts,t.1∈P) (hB:dp ts<=B) (hG:(nV (lgI n) ts).natAbs<=G):∀ c∈P,cfT ts c=0:=by
 intro c hcP
 have h1:=LZ hc (c:=P.map (cfT ts)) (by simpa using hk) (by
  intro x hx;obtain ⟨d,_,rfl⟩:=Y5.1 hx;exact Z2 (Ph d ts) hB) (by rw [<- E8 (lgI n) hP ts hm];exact hG)
 exact h1 _ (List.mem_map_of_mem hcP)
theorem P3 {P:List Int} {k E B G n:Nat} {rs:List A1} {V:List (List Int)} (hc:CZ k E B G (P.map (lgI n)) rs V=true) (hk:P.length=k) (hP:P.Nodup) {ts:List (Int × Int)} (hm:∀ t∈ts,t.1∈P) (hn:(ts.map Prod.fst).Nodup) (h0:∀ t∈ts,t.2≠0) (hB:dp ts<=B) (hG:dp ts<=G) (hne:ts≠[]) :
  0<=(aU n ts (0,0)).1∨(aU n ts (0,0)).2<=0:=by
 obtain ⟨g1,g2,g3⟩:=rV n ts;by_cases hd:0<=(aU n ts (0,0)).1∨(aU n ts (0,0)).2<=0
 ·exact hd
 ·exfalso;have hz:=Ct hc hk hP hm hB aa;cases ts with
  | nil=>exact hne rfl
  | cons t ts=>
   have h1:=hz t.1 (hm t af);simp only [Zu,Xs] at hn;rw [cfT,if_pos rfl,EB ts hn.1] at h1;exact h0 t af aa
theorem Cg {ts:List (Int × Int)}:∀ (r n j:Nat),j<r->(0<=(aU (n*2 ^ j) ts (0,0)).1∨(aU (n*2 ^ j) ts (0,0)).2<=0)->∃ s,FG ts r n=some s∧(s=1∨s = -1)
 | 0,n,j,hj,_=>by omega
 | r+1,n,j,hj,h=>by
  unfold FG;by_cases h1:0<=(aU n ts (0,0)).1
  ·exact ⟨1,by rw [if_pos h1],Or.inl rfl⟩
  ·by_cases h2:(aU n ts (0,0)).2<=0
   ·exact ⟨-1,by rw [if_neg h1,if_pos h2],Or.inr rfl⟩
   ·rw [if_neg h1,if_neg h2];cases j with
    | zero=>simp at h;omega
    | succ j=>
     refine Cg r (n*2) j aa ?_;have:n*2*2 ^ j=n*2 ^ (j+1):=by rw [Nat.pow_succ,Nat.mul_assoc,Zx 2]
     rw [this];exact h
theorem HU (ts:List (Int × Int)) : -1<=m7 ts∧m7 ts<=1:=by
 unfold m7;split
 ·decide
 ·split
  ·decide
  ·split <;> decide
theorem KX {ts:List (Int × Int)} (h:ts≠[]->∃ s,FG ts 6 64=some s∧(s=1∨s = -1)):∃ z,zp ts=some z∧-1<=z∧z<=1:=by
 cases ts with
 | nil=>exact ⟨0,rfl,ae,ae⟩
 | cons t ts=>
  unfold zp;simp only;by_cases hq:m7 (t::ts)≠0
  ·rw [if_pos hq];exact ⟨_,rfl,HU _⟩
  ·rw [if_neg hq];obtain ⟨s,hs,hv⟩:=h af;refine ⟨s,hs,?_⟩;omega
def lgC (n:Nat) (p:Int):Bool:=(Eg p.toNat n).isSome && decide (2 ^ n<=lg p n) && decide (lg p n+1<=8*2 ^ n)
theorem Vo:∀ p∈c6P,∀ i∈List.range 6,lgC (64*2 ^ i) p=true:=aG
theorem SQ {x k:Nat} (hk:1<=k) (h:x<2 ^ (3*k)):ndg x<=k:=by
 refine bi (Z1 h ?_) hk;rw [Nat.pow_mul];exact Nat.pow_le_pow_left ae k
theorem NI {x m k:Nat} (hk:1<=k) (hm:m+3<=3*k) (h:x+1<=8*2 ^ m):ndg x<=k:=by
 refine SQ hk (Z1 (Z1 (Nat.lt_succ_self x) h) ?_);have e:8*2 ^ m=2 ^ (m+3):=by rw [Yy,Zx]
 rw [e];exact Z4 ae hm
theorem Pr:∀ p∈c6P,2<=p∧p<128:=ae
theorem Sa:c6P.Nodup:=ae
theorem Pt {p:Int} (hp:p∈c6P) {i:Nat} (hi:i<6):(Eg p.toNat (64*2 ^ i)).isSome=true∧2 ^ (64*2 ^ i)<=lg p (64*2 ^ i)∧lg p (64*2 ^ i)+1<=8*2 ^ (64*2 ^ i):=by
 have:=Vo p hp i (Xb.2 hi);simp only [lgC,Z8,decide_eq_true_eq] at this;exact ⟨this.1.1,this.1.2,this.2⟩
theorem IL {ts:List (Int × Int)} (h:∀ t∈ts,t.1∈c6P):xf ts:=by
 intro i hi t ht;obtain ⟨h1,h2,h3⟩:=Pt (h t ht) hi;obtain ⟨p1,p2⟩:=Pr _ (h t ht);refine ⟨p1,aa,h1,?_⟩;obtain ⟨k,hk⟩:∃ k,k=1500:=⟨_,rfl⟩;rw [<- hk];refine NI aa ?_ h3;have:2 ^ i<=2 ^ 5:=Z4 ae aa;omega
theorem ye {C:Nat}:∀ ts:List (Int × Int),(∀ t∈ts,t.2.natAbs<=C)->dp ts<=ts.length*C
 | [],_=>by simp [dp]
 | t::ts,h=>by
  have h1:=h t af;have h2:=ye ts fun u hu=>h u (by simp [hu])
  simp only [dp,List.length_cons,Ya];omega
theorem TJ {ts:List (Int × Int)} (hm:∀ t∈ts,t.1∈c6P) (hn:(ts.map Prod.fst).Nodup) (h0:∀ t∈ts,t.2≠0) (hl:ts.length<=6) (hb:∀ t∈ts,t.2.natAbs<9223372036854775808):∃ z,zp ts=some z∧-1<=z∧z<=1:=by
 refine KX fun hne=>Cg 6 64 5 ae ?_
 have h1:=ye (C:=9223372036854775808) ts fun t ht=>Nat.le_of_lt (hb t ht)
 have h2:ts.length*9223372036854775808<=6*9223372036854775808:=Z0 _ hl;have hb1:dp ts<=73786976294838206464:=aa;have h3:=P3 (n:=2048) Kl rfl Sa hm hn h0 hb1 hb1 hne;have e:64*2 ^ 5=2048:=ae;rw [e];exact h3
def rp (b:Nat) (x:Q) (a:Int):Prop:=okQ x∧x.1*(b:Int)=a*(x.2:Int)
theorem JM (n:Int) {d:Nat} (hd:0<d):(ju n d).1*(d:Int)=n*((ju n d).2:Int)∧0<(ju n d).2:=by
 obtain ⟨g,hg⟩:∃ g,g=Nat.gcd n.natAbs d:=⟨_,rfl⟩;have hg0:0<g:=by rw [hg];exact Xn _ hd
 obtain ⟨d',hd'⟩:g ∣ d:=by rw [hg];exact Nat.gcd_dvd_right ..
 obtain ⟨n',hn'⟩:(g:Int) ∣ n:=Pk (by rw [hg];exact W4 ..)
 have e1:(ju n d).1=n':=by
  simp only [ju,<- hg];rw [hn'];exact Int.mul_ediv_cancel_left _ aa
 have e2:(ju n d).2=d':=by
  simp only [ju,<- hg];rw [hd'];exact X5 _ hg0
 rw [e1,e2];refine ⟨?_,?_⟩
 ·rw [hn',hd',Int.natCast_mul,<- Int.mul_assoc,Yl n' g]
 ·rcases Zk d' with h | h
  ·rw [h] at hd';omega
  ·exact h
theorem MO {n a:Int} {d b:Nat} (hd:0<d) (h:n*(b:Int)=a*(d:Int)):rp b (ju n d) a:=by
 obtain ⟨h1,h2⟩:=JM n hd;refine ⟨uT n hd,?_⟩;have hd':(d:Int)≠0:=aa;refine Xy hd' ?_
 calc (ju n d).1*(b:Int)*(d:Int)=(ju n d).1*(d:Int)*(b:Int):=by rw [Yu]
  _=n*((ju n d).2:Int)*(b:Int):=by rw [h1]
  _=n*(b:Int)*((ju n d).2:Int):=by rw [Yu]
  _=a*((ju n d).2:Int)*(d:Int):=by rw [h,Yu]
theorem MQ {b:Nat} {x y:Q} {a c:Int} (hx:rp b x a) (hy:rp b y c):rp b (oH x y) (a+c):=by
 have p1:=hx.1.1;have p2:=hy.1.1;refine MO (Yz p1 p2) ?_;rw [Wu,Wu,Int.natCast_mul]
 have e1:x.1*(y.2:Int)*(b:Int)=a*((x.2:Int)*(y.2:Int)):=by
  rw [Yu,hx.2,Int.mul_assoc]
 have e2:y.1*(x.2:Int)*(b:Int)=c*((x.2:Int)*(y.2:Int)):=by
  rw [Yu,hy.2,Int.mul_assoc,Yl (y.2:Int)]
 rw [e1,e2]
theorem Jm {b:Nat} {x:Q} {a:Int} (z:Int) (hx:rp b x a):rp b (lF x (z,1)) (z*a):=by
 have p1:=hx.1.1;refine MO (by simpa using p1) ?_;simp only [X8];rw [Yu,hx.2,Int.mul_assoc,Yl (x.2:Int),<- Int.mul_assoc,Yl a]
theorem MM {b:Nat} {x:Q} {a:Int} (m:Nat) (hx:rp b x a):rp (b*m) x (a*m):=
 ⟨hx.1,by rw [Int.natCast_mul,<- Int.mul_assoc,hx.2,Yu]⟩
theorem DL (b:Nat):rp b (0,1) 0:=⟨⟨ae,ae⟩,af⟩
theorem zx {b:Nat} {x:Q} {a:Int} (h:rp b x a):x.2 ∣ b:=by
 have h1:x.1.natAbs*b=a.natAbs*x.2:=by
  have:=congrArg Int.natAbs h.2;simpa [Zm] using this
 have h2:x.2 ∣ x.1.natAbs*b:=⟨a.natAbs,by rw [h1,Zx]⟩;exact Nat.Coprime.dvd_of_dvd_mul_left (Nat.Coprime.symm h.1.2) h2
theorem MN {b:Nat} {x:Q} {a:Int} (hb:0<b) (h:rp b x a):x.1.natAbs*(b / x.2)=a.natAbs:=by
 obtain ⟨m,hm⟩:=zx h
 have h1:x.1.natAbs*b=a.natAbs*x.2:=by
  have:=congrArg Int.natAbs h.2;simpa [Zm] using this
 have p:=h.1.1;rw [hm,X5 _ p];refine Nat.eq_of_mul_eq_mul_right p ?_;rw [<- h1,hm,Nat.mul_assoc,Zx m]
theorem MP {b:Nat} {x:Q} {a:Int} (hb:0<b) (h:rp b x a):x.1.natAbs<=a.natAbs∧x.2<=b:=by
 have h1:=MN hb h;have h2:=X9 hb (zx h);have h3:1<=b / x.2:=(Xe h.1.1).2 aa;refine ⟨?_,h2⟩;rw [<- h1];exact Zh _ h3
def bdL (b B:Nat) (s:List Q):Prop:=∀ x∈s,∃ a:Int,rp b x a∧a.natAbs<=B
theorem Kp {b B C:Nat} {s:List Q} (h:bdL b B s) (hc:B<=C):bdL b C s:=fun x hx=>by
 obtain ⟨a,h1,h2⟩:=h x hx;exact ⟨a,h1,aa⟩
theorem vI {b B:Nat} {s:List Q} (m:Nat) (h:bdL b B s):bdL (b*m) (B*m) s:=fun x hx=>by
 obtain ⟨a,h1,h2⟩:=h x hx;refine ⟨a*m,MM m h1,?_⟩;rw [Zm,Int.natAbs_natCast];exact Z0 _ h2
theorem yJ {b A C:Nat} (z:Int):∀ {o s:List Q},bdL b A o->bdL b C s->bdL b (A+z.natAbs*C) (pi (z,1) o s)
 | x::o,y::s,ho,hs=>by
  obtain ⟨a,a1,a2⟩:=ho x af;obtain ⟨c,c1,c2⟩:=hs y af;have ih:=yJ z (o:=o) (s:=s) (fun u hu=>ho u (by simp [hu])) fun u hu=>hs u (by simp [hu])
  intro u hu;simp only [pi,Zr] at hu;rcases hu with rfl | hu
  ·refine ⟨a+z*c,MQ a1 (Jm z c1),?_⟩;have h1:=Int.natAbs_add_le a (z*c);rw [Zm] at h1;have h2:=Z3 z.natAbs c2;omega
  ·exact ih u hu
 | [],s,_,_=>by intro u hu;simp [pi] at hu
 | _::_,[],_,_=>by intro u hu;simp [pi] at hu
theorem Hd (b n:Nat):bdL b 0 (List.replicate n (0,1)):=fun x hx=>by
 rw [Xi] at hx;rw [hx.2];exact ⟨0,DL b,af⟩
theorem sY {b B:Nat} {s:List Q} {n:Nat} {z:Int} (h:bdL b B s):bdL b (z.natAbs*B) (kr n [s] [(z,1)]):=by
 have:=yJ z (Hd b n) h;simpa [kr,vW] using this
theorem yI {b A B:Nat} {s t:List Q} {n:Nat} {z w:Int} (h:bdL b A s) (h':bdL b B t):bdL b (z.natAbs*A+w.natAbs*B) (kr n [s,t] [(z,1),(w,1)]):=by
 have:=yJ w (yJ z (Hd b n) h) h';simpa [kr,vW] using this
theorem Kn {r:List Int} {b B:Nat} (hr:∀ x∈r,x.natAbs<=B):bdL b (B*b) (ofQ r):=fun x hx=>by
 obtain ⟨y,hy,rfl⟩:=Y5.1 hx;refine ⟨y*b,⟨⟨Nat.one_pos,af⟩,af⟩,?_⟩;rw [Zm,Int.natAbs_natCast];exact Z0 _ (hr y hy)
theorem He {b B:Nat} {s:List Q} (hb:0<b) (h:bdL b B s):∀ x∈s,okQ x:=fun x hx=>by
 obtain ⟨a,h1,h2⟩:=h x hx;exact h1.1
theorem mH {b B:Nat} {s:List Q} (hb:0<b) (h:bdL b B s) (h1:b<1000000000000000000000000000000) (h2:B<1000000000000000000000000000000):okS s:=fun x hx=>by
 obtain ⟨a,r1,r2⟩:=h x hx;obtain ⟨l1,l2⟩:=MP hb r1;exact ⟨r1.1,bi (d:=30) (by show _<10 ^ 30;omega) ae,bi (d:=30) (by show _<10 ^ 30;omega) ae⟩
theorem Ke {b:Nat}:∀ {s:List Q} {d:Nat},d ∣ b->(∀ x∈s,x.2 ∣ b)->fi d s ∣ b
 | [],d,h,_=>h
 | x::s,d,h,hs=>Ke (s:=s) (Nat.lcm_dvd h (hs x af)) fun y hy=>hs y (by simp [hy])
theorem IP {b B:Nat} {s:List Q} (h:bdL b B s):fi 1 s ∣ b:=Ke (Nat.one_dvd b) fun x hx=>by
 obtain ⟨a,r1,r2⟩:=h x hx;exact zx r1
theorem uq {b B d:Nat} (hb:0<b) (hd:d ∣ b):∀ {p:List Int} {s:List Q},bdL b B s->∀ t∈dl d p s,t.2.natAbs<=B
 | [],s,_,t,ht=>by simp [dl] at ht
 | p::ps,[],_,t,ht=>by simp [dl] at ht
 | p::ps,x::s,h,t,ht=>by
  obtain ⟨a,r1,r2⟩:=h x af;have ih:=uq hb hd (p:=ps) (s:=s) fun y hy=>h y (by simp [hy])
  simp only [dl] at ht
  have hx:(x.1*((d / x.2:Nat):Int)).natAbs<=B:=by
   rw [Zm,Int.natAbs_natCast];have h1:=MN hb r1;have h2:d / x.2<=b / x.2:=Nat.div_le_div_right (X9 hb hd);have h3:=Z3 x.1.natAbs h2;omega
  split at ht
  ·exact ih t ht
  ·simp only [Zr] at ht;rcases ht with rfl | ht
   ·exact hx
   ·exact ih t ht
theorem sC {d:Nat}:∀ {p:List Int} {s:List Q},∀ t∈dl d p s,t.1∈p
 | [],s,t,ht=>by simp [dl] at ht
 | p::ps,[],t,ht=>by simp [dl] at ht
 | p::ps,x::s,t,ht=>by
  have ih:=sC (d:=d) (p:=ps) (s:=s);simp only [dl] at ht;split at ht
  ·exact List.mem_cons_of_mem _ (ih t ht)
  ·simp only [Zr] at ht;rcases ht with rfl | ht
   ·simp
   ·exact List.mem_cons_of_mem _ (ih t ht)
theorem Ff {d:Nat}:∀ {p:List Int} {s:List Q},p.Nodup->((dl d p s).map Prod.fst).Nodup
 | [],s,_=>by simp [dl]
 | p::ps,[],_=>by simp [dl]
 | p::ps,x::s,h=>by
  rw [Xs] at h;have ih:=Ff (d:=d) (p:=ps) (s:=s) h.2;simp only [dl];split
  ·exact ih
  ·simp only [Zu,Xs];refine ⟨fun hm=>?_,ih⟩;obtain ⟨t,ht,e⟩:=Y5.1 hm;exact h.1 (by rw [<- e];exact sC t ht)
theorem Fg {d:Nat} (hd:0<d):∀ {p:List Int} {s:List Q},(∀ x∈s,0<x.2∧x.2 ∣ d)->∀ t∈dl d p s,t.2≠0
 | [],s,_,t,ht=>by simp [dl] at ht
 | p::ps,[],_,t,ht=>by simp [dl] at ht
 | p::ps,x::s,h,t,ht=>by
  have ih:=Fg hd (p:=ps) (s:=s) fun y hy=>h y (by simp [hy])
  obtain ⟨h1,h2⟩:=h x af;have h3:0<d / x.2:=Wm (X9 hd h2) h1;simp only [dl] at ht;split at ht
  ·exact ih t ht
  ·rename_i hx;simp only [Zr] at ht;rcases ht with rfl | ht
   ·exact Xf hx aa
   ·exact ih t ht
def in6 (p:List Int):Prop:=p.Nodup∧p.length<=6∧∀ x∈p,x∈c6P
theorem vQ {p:List Int} {s:List Q} (hp:in6 p):∀ t∈tq p s,t.1∈c6P:=fun t ht=>hp.2.2 _ (sC t ht)
theorem Ht {p:List Int} {s:List Q} {b B:Nat} (hp:in6 p) (hb:0<b) (h:bdL b B s) (hB:B<9223372036854775808):H3 (tq p s):=by
 refine ⟨?_,fun t ht=>?_⟩
 ·have:=px (d:=fi 1 s) p s;have:=hp.2.1;unfold tq;omega
 ·obtain ⟨h1,h2⟩:=Pr _ (vQ hp t ht);exact ⟨h1,h2,Zf (uq hb (IP h) h t ht) hB⟩
theorem sg6 {p:List Int} {s:List Q} {b B:Nat} (hp:in6 p) (hb:0<b) (h:bdL b B s) (hB:B<9223372036854775808):∃ z,xG p s z∧-1<=z∧z<=1:=by
 have h1:=Ht hp hb h hB;have hd:∀ x∈s,0<x.2:=fun x hx=>(He hb h x hx).1
 have hl:(tq p s).length<=6:=by
  have:=px (d:=fi 1 s) p s;have:=hp.2.1;unfold tq;omega
 obtain ⟨z,hz,z1⟩:=TJ (vQ hp) (Ff hp.1) (Fg (lR ae hd) fun x hx=>⟨hd x hx,(oC (s:=s) (d:=1)).2 x hx⟩) hl fun t ht=>(h1.2 t ht).2.2
 exact ⟨z,⟨HZ h1,IL (vQ hp),hz⟩,z1⟩
theorem tR {most:Int}:∀ (ts:List (Int × Int)) (lo hi C:Int) (a:Int × Int),(∀ t∈ts,2<=t.1∧t.1<128)->lo<=hi->-C<=lo->hi<=C->gE most ts (lo,hi)=some a ->
  a.1<=a.2∧-(C+(dp ts:Int)*469762049)<=a.1∧a.2<=C+(dp ts:Int)*469762049
 | [],lo,hi,C,a,hl,h1,h2,h3,ha=>by
  grind [gE]
 | t::ts,lo,hi,C,a,hl,h1,h2,h3,ha=>by
  obtain ⟨l1,l2⟩:=hl t af;simp only [gE] at ha;split at ha
  ·cases ha
  ·rename_i hc;split at ha
   ·cases ha
   ·rename_i f hf;have hflt:=CK (p:=t.1.toNat) aa aa hf;obtain ⟨b,hb'⟩:∃ b:Int,b=(if t.1=2 then (f:Int) else f+1):=⟨_,rfl⟩;rw [<- hb'] at ha;have hbb:(f:Int)<=b∧b<=f+1:=by subst hb';split <;> omega
    obtain ⟨m,hm⟩:∃ m:Int,m=(t.2.natAbs:Int):=⟨_,rfl⟩
    have bd:∀ z:Int,0<=z->z<=469762049->-(m*469762049)<=t.2*z∧t.2*z<=m*469762049:=by
     intro z hz0 hz;have a1:t.2*z<=m*z:=Zq aa hz0;have a2:(-m)*z<=t.2*z:=Zq aa hz0;have a3:m*z<=m*469762049:=Yw hz aa;rw [Wv] at a2;omega
    have bx:=bd f aa aa;have by_:=bd b aa aa;have:=tR ts _ _ (C+m*469762049) a (fun t ht=>hl t (by grind)) aa aa aa ha
    have e:((dp (t::ts):Nat):Int)*469762049=m*469762049+(dp ts:Int)*469762049:=by
     rw [dp,Int.natCast_add,Wu,<- hm]
    omega
theorem Eu {a b:Int} {M:Nat} (hb:0<b) (h:a.natAbs<=M*b.natAbs):(a / b).natAbs<=M:=by
 have e:((M*b.natAbs:Nat):Int)=(M:Int)*b:=by rw [Int.natCast_mul];congr 1;omega
 have h1:a<=(M:Int)*b:=aa;have h2:(-(M:Int))*b<=a:=by rw [Wv];omega
 have h3 : -(M:Int)<=a / b:=(Xh hb).2 h2;have h4:a / b<=(M:Int):=Int.le_of_lt_add_one ((Int.ediv_lt_iff_lt_mul hb).2 (by grind));omega
theorem FV {x y:Int × Int} {d g:Int} (h1:0<y.1) (h2:y.1<=y.2):wh x y d g=if x.1*g / ((if x.1<0 then y.1 else y.2)*d)=x.2*g / ((if x.2<0 then y.2 else y.1)*d) then some (x.1*g / ((if x.1<0 then y.1 else y.2)*d)) else none:=by
 unfold wh;have hn:¬ y.2<=0:=aa;simp only [hn,if_false];rw [if_neg aa]
theorem Rf:∀ p∈c6P,(match tw p.toNat with | some a=>decide (67108864<=a) | none=>true)=true:=by trivial
theorem zJ {most:Int}:∀ (ts:List (Int × Int)) (a0 a:Int × Int),(∀ t∈ts,t.1∈c6P∧0<t.2)->gE most ts a0=some a->a0.1+ts.length*67108864<=a.1
 | [],a0,a,_,h=>by
  grind [gE]
 | t::ts,a0,a,hl,ha=>by
  obtain ⟨l1,l2⟩:=hl t af;simp only [gE] at ha;split at ha
  ·cases ha
  ·split at ha
   ·cases ha
   ·rename_i f hf;have hc:=Rf _ l1;rw [hf] at hc;have hc:67108864<=f:=of_decide_eq_true hc;obtain ⟨b,hb'⟩:∃ b:Int,b=(if t.1=2 then (f:Int) else f+1):=⟨_,rfl⟩;rw [<- hb'] at ha;have hbb:(f:Int)<=b:=by subst hb';split <;> omega
    have ih:=zJ ts _ a (fun u hu=>hl u (by grind)) ha
    have m1:(67108864:Int)<=t.2*f:=by
     have:=Zq (a:=1) (b:=t.2) (c:=(f:Int)) aa aa;omega
    have m2:(67108864:Int)<=t.2*b:=by
     have:=Zq (a:=1) (b:=t.2) (c:=b) aa aa;omega
    grind
theorem K7 {tx ty:List (Int × Int)} {d g:Nat} {q:Int} (hx:H3 tx) (hy6:∀ t∈ty,t.1∈c6P∧0<t.2) (ne:ty≠[]) (hd:0<d) (h:Bs tx ty d g=some q):q.natAbs<=8*dp tx*g:=by
 unfold Bs at h;split at h
 ·rename_i x y hx' hy';split at h
  ·cases h
  ·obtain ⟨a1,a2,a3⟩:=tR tx 0 0 0 x (fun t ht=>⟨(hx.2 t ht).1,(hx.2 t ht).2.1⟩) aa aa aa hx';obtain ⟨b1,_,_⟩:=tR ty 0 0 0 y (fun t ht=>Pr _ (hy6 t ht).1) aa aa aa hy';have b2:=zJ ty (0,0) y hy6 hy'
   have hlen:1<=ty.length:=by cases ty with
    | nil=>trivial
    | cons t ts=>simp
   have b3:(67108864:Int)<=y.1:=by
    have:=Zq (a:=1) (b:=(ty.length:Int)) (c:=67108864) aa aa;simp only at b2;omega
   rw [FV aa b1] at h;obtain ⟨lo,hlo⟩:∃ lo,lo=if x.1<0 then y.1 else y.2:=⟨_,rfl⟩
   rw [<- hlo] at h;obtain ⟨hi,hhi⟩:∃ hi,hi=if x.2<0 then y.2 else y.1:=⟨_,rfl⟩
   rw [<- hhi] at h;by_cases hc:x.1*(g:Int) / (lo*d)=x.2*g / (hi*d)
   ·rw [if_pos hc] at h;simp only [Z9] at h;rw [<- h];have lo0:67108864<=lo:=by rw [hlo];split <;> omega
    refine Eu (Xk aa aa) ?_;rw [Zm,Zm,Int.natAbs_natCast,Int.natAbs_natCast]
    have e0:x.1.natAbs<=dp tx*469762049:=by
     have e:((dp tx*469762049:Nat):Int)=(dp tx:Int)*469762049:=by rw [Int.natCast_mul];rfl
     omega
    have e1:x.1.natAbs*g<=dp tx*469762049*g:=Z0 _ e0
    have e2:dp tx*469762049*g<=8*dp tx*g*67108864:=by
     have:8*dp tx*g*67108864=dp tx*536870912*g:=by
      rw [Zx 8,Xg _ 8 g,Nat.mul_assoc (dp tx*g),Xg (dp tx) 536870912 g]
     rw [this];exact Z0 _ (Z3 _ ae)
    have e3:67108864<=lo.natAbs*d:=Z2 aa (Zh _ hd);exact Z2 e1 (Z2 e2 (Z3 _ e3))
   grind
 ·cases h
def smT (z:Int) (ts:List (Int × Int)):List (Int × Int):=ts.map fun t=>(t.1,z*t.2)
theorem Dp (h:Int->Int) (z:Int):∀ ts,nV h (smT z ts)=z*nV h ts
 | []=>by simp [smT,nV]
 | t::ts=>by
  have:=Dp h z ts
  grind [smT,nV]
theorem Hz (z c:Int):∀ ts,cfT (smT z ts) c=z*cfT ts c
 | []=>by simp [smT,cfT]
 | t::ts=>by
  have:=Hz z c ts
  grind [smT,cfT]
theorem My (z:Int):∀ ts,dp (smT z ts)=z.natAbs*dp ts
 | []=>by rfl
 | t::ts=>by
  have:=My z ts
  grind [smT,dp,Zm]
theorem Ku (h:Int->Int):∀ a b,nV h (a++b)=nV h a+nV h b
 | [],b=>by simp [nV]
 | t::a,b=>by simp only [List.cons_append,nV,Ku h a b];omega
theorem PE (c:Int):∀ a b,cfT (a++b) c=cfT a c+cfT b c
 | [],b=>by simp [cfT]
 | t::a,b=>by simp only [List.cons_append,cfT,PE c a b];omega
theorem Sf:∀ a b,dp (a++b)=dp a+dp b
 | [],b=>by simp [dp]
 | t::a,b=>by simp only [List.cons_append,dp,Sf a b];omega
theorem Nm {x y:Int × Int} {d g X Y:Int} {Sx Sy:Nat} (d0:0<d) (g0:0<g) (y0:0<y.1) (x1:x.1<=X) (x2:X<=x.2) (x3:x.2-x.1<=Sx) (y1:y.1<=Y) (y2:Y<=y.2) (y3:y.2-y.1<=Sy) :
  (∃ q,wh x y d g=some q∧q=x.2*g / ((if x.2<0 then y.2 else y.1)*d))∨wh x y d g=none∧∃ q:Int,q=x.2*g / ((if x.2<0 then y.2 else y.1)*d)∧(g*X-q*d*Y).natAbs<=g.natAbs*Sx+(q*d).natAbs*Sy:=by
 rw [FV y0 aa];obtain ⟨lo,hlo⟩:∃ lo,lo=if x.1<0 then y.1 else y.2:=⟨_,rfl⟩
 obtain ⟨hi,hhi⟩:∃ hi,hi=if x.2<0 then y.2 else y.1:=⟨_,rfl⟩
 rw [<- hlo,<- hhi];have lo0:y.1<=lo∧lo<=y.2:=by rw [hlo];split <;> omega
 have hi0:y.1<=hi∧hi<=y.2:=by rw [hhi];split <;> omega
 have pl:0<lo*d:=Xk aa d0;have ph:0<hi*d:=Xk aa d0;by_cases he:x.1*g / (lo*d)=x.2*g / (hi*d)
 ·left;exact ⟨_,by rw [if_pos he,he],rfl⟩
 ·right;refine ⟨if_neg he,_,rfl,?_⟩;obtain ⟨q1,hq1⟩:∃ q1,q1=x.1*g / (lo*d):=⟨_,rfl⟩;obtain ⟨q,hq⟩:∃ q,q=x.2*g / (hi*d):=⟨_,rfl⟩;rw [<- hq1,<- hq] at he;rw [<- hq];have g1:q1*(lo*d)<=x.1*g:=(Xh pl).1 aa;have hxg:x.1*g<=x.2*g:=Zq aa aa
  have hle:q1<=q:=by
   rw [hq];refine (Xh ph).2 ?_;refine Int.le_trans ?_ (Int.le_trans g1 hxg);by_cases hs:0<=q1
   ·have hx0:¬ x.1<0:=by
     intro hneg;have a1:0<=q1*(lo*d):=W7 hs aa;have a2:x.1*g<0:=Int.mul_neg_of_neg_of_pos hneg g0;omega
    rw [if_neg hx0] at hlo;refine Yw (Zq aa aa) hs
   ·have hx0:x.1<0:=by
     have:x.1*g<0*(lo*d):=(Int.ediv_lt_iff_lt_mul pl).1 aa;rw [Int.zero_mul] at this;by_cases hh:x.1<0
     ·exact hh
     ·have:=W7 (a:=x.1) (b:=g) aa aa;omega
    rw [if_pos hx0] at hlo;have a3:lo*d<=hi*d:=Zq aa aa;exact Int.mul_le_mul_of_nonpos_left aa a3
  have g2:x.1*g<q*(lo*d):=(Int.ediv_lt_iff_lt_mul pl).1 aa;have g3:q*(hi*d)<=x.2*g:=(Xh ph).1 aa;obtain ⟨u,hu⟩:∃ u,u=q*d:=⟨_,rfl⟩;have e1:q*(lo*d)=u*lo:=by rw [hu,Yl lo,Int.mul_assoc]
  have e2:q*(hi*d)=u*hi:=by rw [hu,Yl hi,Int.mul_assoc]
  rw [e1] at g2;rw [e2] at g3;rw [<- hu]
  have m1:(u*(lo-Y)).natAbs<=u.natAbs*Sy:=by
   rw [Zm];exact Z3 _ aa
  have m2:(u*(hi-Y)).natAbs<=u.natAbs*Sy:=by
   rw [Zm];exact Z3 _ aa
  rw [Int.mul_sub] at m1 m2
  have k1:g*X<=x.1*g+g*Sx:=by
   have:g*X<=g*(x.1+Sx):=Yw aa aa;rw [Int.mul_add,Yl g x.1] at this;exact this
  have k2:x.2*g-g*Sx<=g*X:=by
   have:g*(x.2-Sx)<=g*X:=Yw aa aa;rw [Int.mul_sub,Yl g x.2] at this;exact this
  have e3:((g.natAbs*Sx:Nat):Int)=g*Sx:=by rw [Int.natCast_mul];congr 1;omega
  omega
theorem J4 {n:Nat}:∀ ts:List (Int × Int),(∀ t∈ts,lg t.1 n+1<=8*2 ^ n)->(aU n ts (0,0)).1.natAbs<=dp ts*(8*2 ^ n)∧(aU n ts (0,0)).2.natAbs<=dp ts*(8*2 ^ n)
 | [],_=>by simp [aU,dp]
 | t::ts,h=>by
  obtain ⟨h1,h2⟩:=J4 ts fun u hu=>h u (by grind)
  have h3:=h t af;obtain ⟨P,hP⟩:∃ P,P=8*2 ^ n:=⟨_,rfl⟩;rw [<- hP] at h1 h2 h3 ⊢;obtain ⟨x,hx⟩:∃ x:Int,x=lg t.1 n:=⟨_,rfl⟩;obtain ⟨y,hy⟩:∃ y:Int,y=if t.1=2 then x else x+1:=⟨_,rfl⟩
  have hxy:y=x∨y=x+1:=by rw [hy];split <;> simp
  have e:aU n (t::ts) (0,0)=aU n ts (if t.2<0 then (0+y*t.2,0+x*t.2) else (0+x*t.2,0+y*t.2)):=by
   rw [hy,hx];rfl
  rw [e,qq ts];simp only [dp,Wo,Nat.add_mul]
  have m1:(x*t.2).natAbs<=t.2.natAbs*P:=by
   rw [Zm,Zx];exact Z3 _ aa
  have m2:(y*t.2).natAbs<=t.2.natAbs*P:=by
   rw [Zm,Zx];exact Z3 _ aa
  split <;> simp only <;> omega
theorem GN {n:Nat}:∀ ts:List (Int × Int),(∀ t∈ts,0<t.2∧2 ^ n<=lg t.1 n)->ts≠[]->((2 ^ n:Nat):Int)<=(aU n ts (0,0)).1
 | [],_,h=>(h rfl).elim
 | t::ts,h,_=>by
  obtain ⟨h1,h2⟩:=h t af;obtain ⟨P,hP⟩:∃ P:Nat,P=2 ^ n:=⟨_,rfl⟩
  have e:aU n (t::ts) (0,0)=aU n ts (0+(lg t.1 n:Int)*t.2,0+(if t.1=2 then (lg t.1 n:Int) else (lg t.1 n:Int)+1)*t.2):=by
   have:¬ t.2<0:=aa;simp only [aU,this,if_false]
  rw [e,qq ts];simp only [Wo]
  have h3:(lg t.1 n:Int)<=lg t.1 n*t.2:=by
   have:=Yw (a:=1) (b:=t.2) (c:=(lg t.1 n:Int)) aa aa;simpa using this
  have h4:0<=(aU n ts (0,0)).1:=by
   by_cases ht:ts=[]
   ·grind [aU]
   ·have:=GN ts (fun u hu=>h u (by grind)) ht;omega
  omega
theorem OA {tx ty:List (Int × Int)} {d g:Nat} {i:Nat} (hi:i<6) (d0:0<d) (g0:0<g) (hx:∀ t∈tx,t.1∈c6P) (hy:∀ t∈ty,t.1∈c6P∧0<t.2) (ne:ty≠[]) :
  (∃ q:Int,wh (aU (64*2 ^ i) tx (0,0)) (aU (64*2 ^ i) ty (0,0)) d g=some q∧q.natAbs<=8*dp tx*g)∨(wh (aU (64*2 ^ i) tx (0,0)) (aU (64*2 ^ i) ty (0,0)) d g=none∧∃ q:Int,q.natAbs<=8*dp tx*g∧((g:Int)*nV (lgI (64*2 ^ i)) tx-q*d*nV (lgI (64*2 ^ i)) ty).natAbs<=g*dp tx+(q*d).natAbs*dp ty):=by
 obtain ⟨n,hn⟩:∃ n,n=64*2 ^ i:=⟨_,rfl⟩;have hx1:∀ t∈tx,lg t.1 n+1<=8*2 ^ n:=fun t ht=>by rw [hn];exact (Pt (hx t ht) hi).2.2
 have hy1:∀ t∈ty,0<t.2∧2 ^ n<=lg t.1 n:=fun t ht=>by rw [hn];exact ⟨(hy t ht).2,(Pt (hy t ht).1 hi).2.1⟩
 rw [<- hn];obtain ⟨x1,x2,x3⟩:=rV n tx;obtain ⟨y1,y2,y3⟩:=rV n ty;obtain ⟨b1,b2⟩:=J4 tx hx1;have yp:=GN ty hy1 ne;have p2:0<2 ^ n:=Yk ae;obtain ⟨P,hP⟩:∃ P:Nat,P=2 ^ n:=⟨_,rfl⟩;rw [<- hP] at b1 b2 yp p2;have y0:0<(aU n ty (0,0)).1:=aa;have hh:=Nm (d:=(d:Int)) (g:=(g:Int)) aa aa y0 x1 x2 x3 y1 y2 y3
 obtain ⟨x,hx'⟩:∃ x,x=aU n tx (0,0):=⟨_,rfl⟩;obtain ⟨y,hy'⟩:∃ y,y=aU n ty (0,0):=⟨_,rfl⟩;rw [<- hx'] at x1 x2 x3 b1 b2 hh ⊢;rw [<- hy'] at y1 y2 y3 yp y0 hh ⊢
 have hb:∀ q,q=x.2*(g:Int) / ((if x.2<0 then y.2 else y.1)*(d:Int))->q.natAbs<=8*dp tx*g:=by
  intro q hq;rw [hq];obtain ⟨hi',hhi⟩:∃ hi',hi'=if x.2<0 then y.2 else y.1:=⟨_,rfl⟩
  rw [<- hhi];have hi0:(P:Int)<=hi':=by rw [hhi];split <;> omega
  refine Eu (Xk aa aa) ?_;rw [Zm,Zm,Int.natAbs_natCast,Int.natAbs_natCast];have e1:x.2.natAbs*g<=dp tx*(8*P)*g:=Z0 _ b2
  have e2:dp tx*(8*P)*g=8*dp tx*g*P:=by
   rw [Zx 8 P,<- Nat.mul_assoc,Zx 8 (dp tx),Xg (dp tx) P 8,Xg _ P g]
  have e3:P<=hi'.natAbs*d:=Z2 aa (Zh _ d0);rw [e2] at e1;exact Z2 e1 (Z3 _ e3)
 rcases hh with ⟨q,h1,h2⟩ | ⟨h0,q,h1,h2⟩
 ·grind
 grind
theorem QJ {tx ty:List (Int × Int)} {d g:Nat} (d0:0<d) (g0:0<g) (hx:∀ t∈tx,t.1∈c6P) (hy:∀ t∈ty,t.1∈c6P∧0<t.2) (ne:ty≠[]) (hb:g*dp tx+8*dp tx*g*d*dp ty<=73786976294838206464) :
  (∃ q:Int,∀ c∈c6P,(g:Int)*cfT tx c=q*d*cfT ty c)∨∀ r i,i+r=6->i<=5->∃ q,GH tx ty d g r (64*2 ^ i)=some q∧q.natAbs<=8*dp tx*g∧∃ j,j<=5∧wh (aU (64*2 ^ j) tx (0,0)) (aU (64*2 ^ j) ty (0,0)) d g=some q:=by
 by_cases hp:∃ q:Int,∀ c∈c6P,(g:Int)*cfT tx c=q*d*cfT ty c
 ·simp_all
 ·right;intro r
  induction r with
  | zero=>omega
  | succ r ih=>
   intro i h1 h2;unfold GH;rcases OA (d:=d) (g:=g) (i:=i) aa d0 g0 hx hy ne with ⟨q,q1,q2⟩ | ⟨q0,q,q1,h⟩
   ·exact ⟨q,by rw [q1],q2,i,h2,q1⟩
   ·rw [q0];simp only;by_cases hi:i=5
    ·exfalso;subst hi;have e:64*2 ^ 5=2048:=ae;rw [e] at h
     ·refine hp ⟨q,fun c hc=>?_⟩
      have hm:∀ t∈smT g tx++smT (-(q*d)) ty,t.1∈c6P:=by
       intro t ht;rcases Xt.1 ht with ht | ht
       ·obtain ⟨u,hu,rfl⟩:=Y5.1 ht;grind
       ·obtain ⟨u,hu,rfl⟩:=Y5.1 ht;grind
      have hS:dp (smT g tx++smT (-(q*d)) ty)=g*dp tx+(q*d).natAbs*dp ty:=by
       rw [Sf,My,My,Wr,Int.natAbs_natCast]
      have hle:g*dp tx+(q*d).natAbs*dp ty<=73786976294838206464:=by
       refine Z2 (Nat.add_le_add_left (Z0 _ ?_) _) hb;rw [Zm,Int.natAbs_natCast];exact Z0 _ q1
      have hs:nV (lgI 2048) (smT g tx++smT (-(q*d)) ty)=(g:Int)*nV (lgI 2048) tx-q*d*nV (lgI 2048) ty:=by
       rw [Ku,Dp,Dp,Wv];omega
      have:=Ct (n:=2048) Kl rfl Sa hm aa aa c hc;rw [PE,Hz,Hz,Wv] at this;omega
    ·have:=ih (i+1) aa aa;have e:64*2 ^ i*2=64*2 ^ (i+1):=by rw [Nat.pow_succ,Nat.mul_assoc]
     grind
theorem Qw (n d:Int):(te n d).1.natAbs<=n.natAbs:=by
 grind [te,Ee]
theorem FS {A m:Nat}:∀ {a b:List Q} {k:Q},(∀ x∈a,0<x.2∧x.1.natAbs<=A)->(∀ y∈b,0<y.2∧y.2<=m)->0<k.2->k.1.natAbs<=A*m->0<(gX k a b).2∧(gX k a b).1.natAbs<=A*m
 | [],b,k,_,_,h1,h2=>by trivial
 | x::a,[],k,_,_,h1,h2=>by trivial
 | x::a,y::b,k,ha,hb,h1,h2=>by
  obtain ⟨x1,x2⟩:=ha x af;obtain ⟨y1,y2⟩:=hb y af;simp only [gX];refine FS (fun u hu=>ha u (by grind)) (fun u hu=>hb u (by grind)) ?_ ?_
  ·split
   ·exact h1
   ·rename_i h;exact (JL (Xf aa h)).1
  grind [xH,Z2,Qw,Zm,Zs]
def Ib (q:Int):List Q->List Q->Prop
 | x::a,y::b=>x.1*(y.2:Int)=q*(y.1*(x.2:Int))∧Ib q a b
 | _,_=>True
theorem mr {x:Q} (hx:okQ x) {n:Int} {d:Nat} (hd:0<d) (h:x.1*(d:Int)=n*(x.2:Int)):ju n d=x:=by
 obtain ⟨h1,h2⟩:=JM n hd;have ho:=uT n hd;obtain ⟨y,hy⟩:∃ y,y=ju n d:=⟨_,rfl⟩;rw [<- hy] at h1 h2 ho ⊢;have hd':(d:Int)≠0:=aa
 have e:x.1*(y.2:Int)=y.1*(x.2:Int):=by
  refine Xy hd' ?_;rw [Yu,h,Yu y.1,h1,Yu]
 have e1:x.2 ∣ y.2:=zx (b:=y.2) (a:=y.1) ⟨hx,e⟩;have e2:y.2 ∣ x.2:=zx (b:=x.2) (a:=x.1) ⟨ho,e.symm⟩;have e3:x.2=y.2:=Nat.dvd_antisymm e1 e2;rw [e3] at e;have e4:=Xy aa e
 grind
theorem DN {q:Int}:∀ {a b:List Q} {k:Q},(∀ x∈a,okQ x)->(∀ y∈b,okQ y)->Ib q a b->(k=(q,1)∨True)->gX k a b=(q,1)∨(gX k a b=k∧∀ i,i<a.length->∀ y,b[i]? = some y->y.1=0)
 | [],b,k,_,_,_,_=>Or.inr ⟨by rfl,fun i h=>by simp at h⟩
 | x::a,[],k,_,_,_,_=>Or.inr ⟨by rfl,fun i h y hy=>by simp at hy⟩
 | x::a,y::b,k,ha,hb,hm,_=>by
  have hx:=ha x af;have hy:=hb y af;obtain ⟨m1,m2⟩:=hm;simp only [gX];by_cases h0:y.1=0
  ·rw [if_pos h0];rcases DN (k:=k) (fun u hu=>ha u (by grind)) (fun u hu=>hb u (by grind)) m2 (Or.inr trivial) with h | ⟨h,h'⟩
   ·grind
   grind
  ·rw [if_neg h0]
   have e:xH x y=(q,1):=by
    unfold xH te;rw [m1];have p1:=hx.1;by_cases hn:(x.2:Int)*y.1<0
    ·rw [if_pos hn];refine mr ⟨Nat.one_pos,af⟩ aa ?_;have:(((x.2:Int)*y.1).natAbs:Int) = -((x.2:Int)*y.1):=aa
     grind
    ·rw [if_neg hn];have hne:(x.2:Int)*y.1≠0:=Xf aa h0;refine mr ⟨Nat.one_pos,af⟩ aa ?_;have:(((x.2:Int)*y.1).natAbs:Int)=(x.2:Int)*y.1:=aa
     grind
   rw [e];rcases DN (k:=(q,1)) (fun u hu=>ha u (by grind)) (fun u hu=>hb u (by grind)) m2 (Or.inr trivial) with h | ⟨h,h'⟩
   ·grind
   grind
theorem Jv {q:Int}:∀ {a b:List Q},(∀ x∈a,okQ x)->(∀ y∈b,okQ y)->Ib q a b->ky (q,1) a b=true
 | [],b,_,_,_=>by rfl
 | x::a,[],_,_,_=>by rfl
 | x::a,y::b,ha,hb,hm=>by
  have hx:=ha x af;have hy:=hb y af;obtain ⟨m1,m2⟩:=hm;simp only [ky,Z8,decide_eq_true_eq];refine ⟨?_,Jv (fun u hu=>ha u (by grind)) (fun u hu=>hb u (by grind)) m2⟩;unfold lF;refine mr hx (by have:=hy.1;omega) ?_
  grind
theorem Jw {q:Int}:∀ {a b:List Q},a.length=b.length->(∀ x∈a,okQ x)->(∀ y∈b,okQ y)->Ib q a b->(∀ i,i<a.length->∀ y,b[i]? = some y->y.1=0)->ky (0,1) a b=true
 | [],b,_,_,_,_,_=>by rfl
 | x::a,[],_,_,_,_,_=>by rfl
 | x::a,y::b,hl,ha,hb,hm,h0=>by
  have hx:=ha x af;have hy:=hb y af;obtain ⟨m1,m2⟩:=hm;have y0:y.1=0:=h0 0 af y af;simp only [ky,Z8,decide_eq_true_eq];refine ⟨?_,Jw (by grind) (fun u hu=>ha u (by grind)) (fun u hu=>hb u (by grind)) m2 fun i hi z hz=>h0 (i+1) (by grind) z (by trivial)⟩;unfold lF;have p:=hy.1;refine mr hx aa ?_
  grind
theorem Qb {q:Int} {a b:List Q} (hl:a.length=b.length) (ha:∀ x∈a,okQ x) (hb:∀ y∈b,okQ y) (hm:Ib q a b):ky (gX (0,1) a b) a b=true:=by
 rcases DN (k:=(0,1)) ha hb hm (Or.inr trivial) with h | ⟨h,h'⟩
 ·grind [Jv]
 grind [Jw]
theorem Pg {d g:Nat} {q:Int} (d0:0<d) (g0:0<g):∀ {p:List Int} {a b:List Q},p.Nodup->a.length=p.length->b.length=p.length->(∀ x∈a,0<x.2∧x.2 ∣ d)->(∀ y∈b,0<y.2∧y.2 ∣ g) ->
  (∀ c∈p,(g:Int)*cfT (dl d p a) c=q*d*cfT (dl g p b) c)->Ib q a b
 | [],a,b,_,la,lb,_,_,_=>by
  grind [Ib]
 | c::p,[],b,_,la,_,_,_,_=>by simp at la
 | c::p,x::a,[],_,_,lb,_,_,_=>by simp at lb
 | c::p,x::a,y::b,hn,la,lb,ha,hb,h=>by
  rw [Xs] at hn;obtain ⟨x1,dx,hdx⟩:=ha x af;obtain ⟨y1,gy,hgy⟩:=hb y af
  have k1:∀ (D:Nat) (s:List Q),cfT (dl D p s) c=0:=fun D s=>EB _ fun hm=>by
   obtain ⟨t,ht,e⟩:=Y5.1 hm
   grind [sC]
  have k2:∀ (D:Nat) (z:Q) (s:List Q),cfT (dl D (c::p) (z::s)) c=z.1*((D / z.2:Nat):Int):=fun D z s=>by
   grind [dl,cfT]
  have k3:∀ (D:Nat) (z:Q) (s:List Q) (e:Int),e≠c->cfT (dl D (c::p) (z::s)) e=cfT (dl D p s) e:=fun D z s e he=>by
   simp only [dl];split
   ·rfl
   grind [cfT]
  refine ⟨?_,Pg d0 g0 hn.2 (by grind) (by grind) (fun u hu=>ha u (by grind)) (fun u hu=>hb u (by grind)) fun e he=>?_⟩
  ·have:=h c af;rw [k2,k2,hdx,hgy,X5 _ x1,X5 _ y1] at this
   have dx0:0<dx:=by
    rcases Zk dx with h | h
    ·grind
    ·exact h
   have gy0:0<gy:=by
    rcases Zk gy with h | h
    ·grind
    ·exact h
   have hne:(gy:Int)*(dx:Int)≠0:=Xf aa aa;refine Xy hne ?_;rw [Int.natCast_mul,Int.natCast_mul] at this
   have l:(y.2:Int)*(gy:Int)*(x.1*(dx:Int))=x.1*(y.2:Int)*((gy:Int)*(dx:Int)):=by
    simp only [Yl,Xc,Int.mul_assoc]
   have r:q*((x.2:Int)*(dx:Int))*(y.1*(gy:Int))=q*(y.1*(x.2:Int))*((gy:Int)*(dx:Int)):=by
    simp only [Yl,Xc,Int.mul_assoc]
   omega
  grind
def Vb (p:List Int) (a b:List Q) (q:Int):Prop:=
 (ky (gX (0,1) a b) a b=true∧q=(gX (0,1) a b).1 / ((gX (0,1) a b).2:Int)∧0<(gX (0,1) a b).2)∨Bs (tq p a) (tq p b) (fi 1 a) (fi 1 b)=some q ∨
 ∃ j,j<=5∧wh (aU (64*2 ^ j) (tq p a) (0,0)) (aU (64*2 ^ j) (tq p b) (0,0)) (fi 1 a) (fi 1 b)=some q
theorem R5 {p:List Int} {a b:List Q} {n A m B:Nat} (hp:in6 p) (n0:0<n) (m0:0<m) (ha:bdL n A a) (hb:bdL m B b) (la:a.length=p.length) (lb:b.length=p.length) (hpos:∀ t∈tq p b,0<t.2) (ne:tq p b≠[])
  (hA:A<9223372036854775808) (hB:B<9223372036854775808) (hn:n<9223372036854775808) (hm:m<9223372036854775808) (hQ:A*m*48<9223372036854775808) (hC:m*(6*A)+8*(6*A)*m*n*(6*B)<=73786976294838206464) :
  ∃ q:Int,rT p a b q∧q.natAbs<=A*m*48∧Vb p a b q:=by
 have oa:=He n0 ha;have ob:=He m0 hb;have hAm:A*m<=A*m*48:=Zh _ ae;by_cases hr:ky (gX (0,1) a b) a b=true
 ·obtain ⟨k1,k2⟩:=FS (A:=A) (m:=m) (a:=a) (b:=b) (k:=(0,1)) (fun x hx=>by
   obtain ⟨z,z1,z2⟩:=ha x hx;exact ⟨(oa x hx).1,by have:=(MP n0 z1).1;omega⟩) (fun y hy=>by
   obtain ⟨z,z1,z2⟩:=hb y hy;exact ⟨(ob y hy).1,(MP m0 z1).2⟩) ae af
  refine ⟨_,Or.inl ⟨hr,rfl⟩,Z2 (Eu (M:=(gX (0,1) a b).1.natAbs) aa ?_) (Z2 k2 hAm),Or.inl ⟨hr,rfl,k1⟩⟩;exact Zh _ aa
 ·have hr':ky (gX (0,1) a b) a b=false:=by simpa using hr
  have tx:=Ht hp n0 ha hA;have ty:=Ht hp m0 hb hB;have d1:=IP ha;have g1:=IP hb;have dle:=X9 n0 d1;have gle:=X9 m0 g1;have d0:0<fi 1 a:=lR ae fun x hx=>(oa x hx).1
  have g0:0<fi 1 b:=lR ae fun x hx=>(ob x hx).1
  have lx:(tq p a).length<=6:=by
   have:=px (d:=fi 1 a) p a;have:=hp.2.1;unfold tq;omega
  have ly:(tq p b).length<=6:=by
   have:=px (d:=fi 1 b) p b;have:=hp.2.1;unfold tq;omega
  have sx:dp (tq p a)<=6*A:=Z2 (ye (C:=A) _ fun t ht=>uq n0 d1 ha t ht) (Z0 _ lx);have sy:dp (tq p b)<=6*B:=Z2 (ye (C:=B) _ fun t ht=>uq m0 g1 hb t ht) (Z0 _ ly);have hx6:∀ t∈tq p a,t.1∈c6P:=vQ hp;have hy6:∀ t∈tq p b,t.1∈c6P∧0<t.2:=fun t ht=>⟨vQ hp t ht,hpos t ht⟩
  have bQ:8*dp (tq p a)*fi 1 b<=A*m*48:=by
   have e:A*m*48=8*(6*A)*m:=by
    rw [Xg A m,<- Nat.mul_assoc,Zx A]
   rw [e];exact Zs (Z3 _ sx) gle
  cases hq:Bs (tq p a) (tq p b) (fi 1 a) (fi 1 b) with
  | some q=>
   have h1:=K7 tx hy6 ne d0 hq;refine ⟨q,Or.inr ⟨hr',tx,ty,aa,aa,Or.inl ⟨hq,aa,aa⟩⟩,aa,Or.inr (Or.inl hq)⟩
  | none=>
   rcases QJ (tx:=tq p a) (ty:=tq p b) d0 g0 hx6 hy6 ne (by
    refine Z2 (Nat.add_le_add (Zs gle sx) ?_) hC;exact Zs (Zs (Zs (Z3 8 sx) gle) dle) sy) with ⟨q,h⟩ | h
   ·exfalso;refine hr (Qb aa oa ob (Pg (q:=q) d0 g0 hp.1 la lb (fun x hx=>⟨(oa x hx).1,(oC (s:=a) (d:=1)).2 x hx⟩) (fun y hy=>⟨(ob y hy).1,(oC (s:=b) (d:=1)).2 y hy⟩) fun c hc=>h c (hp.2.2 c hc)))
   ·obtain ⟨q,q1,q2,q3⟩:=h 6 0 ae ae;refine ⟨q,Or.inr ⟨hr',tx,ty,aa,aa,Or.inr ⟨hq,IL hx6,IL (vQ hp),fun i _=>?_,aa⟩⟩,?_,Or.inr (Or.inr q3)⟩
    ·obtain ⟨y1,y2,_⟩:=rV (64*2 ^ i) (tq p b);omega
    ·refine Z2 q2 (Z2 ?_ bQ);have e:8*dp (tq p a)*fi 1 b<=8*dp (tq p a)*fi 1 b:=Z0 _ aa;exact e
theorem YA {p:List Int} {a b:List Q} {n A m B:Nat} (hp:in6 p) (n0:0<n) (m0:0<m) (ha:bdL n A a) (hb:bdL m B b) (la:a.length=p.length) (lb:b.length=p.length) (hpos:∀ t∈tq p b,0<t.2) (ne:tq p b≠[])
  (hA:A<9223372036854775808) (hB:B<9223372036854775808) (hn:n<9223372036854775808) (hm:m<9223372036854775808) (hQ:A*m*48<9223372036854775808) (hC:m*(6*A)+8*(6*A)*m*n*(6*B)<=73786976294838206464) :
  ∃ q:Int,rT p a b q∧q.natAbs<=A*m*48:=by
 grind [R5]
theorem Eh {z:Int} {n:Nat} (h0:0<n) (h1:n<1000000000000000000) (h2 : -1000000000000000000<z) (h3:z<1000000000000000000) (hg:Nat.gcd z.natAbs n=1):CP Y F.cC [I z,I n] (.agg (qT (z,n))):=by
 refine qJ ?_;have fo:=Ou (n:=z) (d:=(n:Int)) aa aa aa aa aa;rw [NR h0,Gl hg] at fo;have fo':CP Y F.jR [I z,I n] (.tup [.agg [S (itoa z),S (ah n)],I 0]):=fo;simp (disch:=try exact ac)[cC];refine cd fo' ?_;simp (disch:=try exact ac)[];exact kA rfl rfl
structure ZH (p:List Int) (n:Nat) (r:List Int) (q:Int):Prop where
 hp:pcB p=0
 hN:p.length<=20
 hl:0<p.length
 h0:0<n
 h1:n<=10000
 lr:r.length=p.length
 sr:smR r=true
 st:okS (dQ p n)
 of:okS (ofQ r)
 q1 : -1000000000000000000<q
 q2:q<1000000000000000000
 ti:okS (mf p n q)
 er:okS (mU p n q (ofQ r))
theorem GM {s t:List Int} (hN:s.length<1000000) (k:KL):∀ (q r a b:List Int),a++q=s->b++r=t->a.length=b.length->q.length=r.length->(q=r->k (.exit 0) [] [])->(q≠r->k .ret [B false] []) ->
  lp (cY (CX Y) (lst di s) (lst di t)) [] [] [I a.length] [] k
 | [],r,a,b,ha,hb,hab,hqr,h0,h1=>by
  simp at ha;subst ha
  have:r=[]:=by cases r with
   | nil=>rfl
   | cons y r=>simp at hqr
  refine ax ?_;simp (disch:=try exact ac)[cY];exact h0 this.symm
 | x::q,[],a,b,ha,hb,hab,hqr,h0,h1=>by simp at hqr
 | x::q,y::r,a,b,ha,hb,hab,hqr,h0,h1=>by
  have hal:a.length<s.length:=by subst ha;simp
  have hbl:a.length<t.length:=by subst hb;simp;omega
  have hx:nth 0 s a.length=x:=by subst ha;simp
  have hy:nth 0 t a.length=y:=by subst hb;rw [hab];simp
  have i1:=dP di s [] (k:=.i64) (i:=(a.length:Int)) aa aa;have i2:=eZ di 0 s [] (j:=a.length) hal;have j1:=dP di t [] (k:=.i64) (i:=(a.length:Int)) aa aa;have j2:=eZ di 0 t [] (j:=a.length) hbl;rw [hx] at i2;rw [hy] at j2;simp only [Int.toNat_natCast] at i1 j1;have g1:(a.length:Int)<(s.length:Int):=aa;refine ax ?_;by_cases hxy:x=y
  ·subst hxy;have ih:=GM hN k q r (a++[x]) (b++[x]) (by simpa using ha) (by simpa using hb) (by simp [hab]) (by simpa using hqr) (fun e=>h0 (by rw [e])) (fun e=>h1 (by simpa using e));simp (disch:=try exact ac)[cY,i1,i2,j1,j2,g1,hx,hy];simpa using ih
  ·simp (disch:=try exact ac)[cY,i1,i2,j1,j2,g1,hx,hy,hxy];exact h1 (by simp [hxy])
theorem Eo {s t:List Int} (hN:s.length<1000000):CP Y F.bZ [lst di s,lst di t] (B (decide (s=t))):=by
 refine oU ?_;have l1:bq (lst di s)=some (I s.length):=rfl;have l2:bq (lst di t)=some (I t.length):=rfl;by_cases h:s.length=t.length
 ·have g:((s.length:Int)=(t.length:Int))=True:=eq_true aa;simp (disch:=try exact ac)[bZ,l1,l2,g]
  have:=GM (s:=s) (t:=t) hN (exK [(Exit.exit 0,fun l5 h=>out (B (decide (s=t))) (V.d (D.bool true)) h),(Exit.ret,fun l5 h=>out (B (decide (s=t))) (ge l5 0) h)]) s t [] [] rfl rfl rfl h (fun g=>by
   simp (disch:=try exact ac)[];exact jg (by simp [g])) (fun g=>by
   simp (disch:=try exact ac)[];exact jg (by simp [g]))
  refine lo ?_;exact this
 ·have g:¬ ((s.length:Int)=(t.length:Int)):=aa;have:¬ s=t:=fun e=>h (by rw [e])
  simp (disch:=try exact ac)[bZ,l1,l2,g] <;> exact jg (by simp [this])
theorem FJ {s t:List Int} (hN:s.length<1000000):CP Y F.dj [lst di s,lst di t] (B (decide (s=t))):=by
 refine pB ?_;simp (disch:=try exact ac)[dj];refine cd (Eo hN) ?_;simp (disch:=try exact ac)[] <;> exact jg rfl
theorem IU (n k:Nat) (hn:0<n):pi (1,n) (List.replicate k (0,1)) (List.replicate k (0,1))=List.replicate k (0,1):=by
 induction k with
 | zero=>rfl
 | succ k ih=>
  rw [List.replicate_succ,pi,ih];have e1:lF ((0,1):Q) (1,n)=(0,1):=mr ⟨Nat.one_pos,af⟩ aa af;have e2:oH ((0,1):Q) (0,1)=(0,1):=ae
  grind
theorem ut {p:List Int} {n:Nat} (hl:0<p.length) (h0:0<n):dQ p n=(1,n)::List.replicate (p.length-1) (0,1):=by
 obtain ⟨k,hk⟩:∃ k,p.length=k+1:=⟨p.length-1,aa⟩;unfold dQ kr ia;rw [hk,List.replicate_succ];simp only [vW,pi,Xj];rw [IU n k h0];have e1:lF ((1,1):Q) (1,n)=(1,n):=mr ⟨h0,af⟩ aa af;rw [e1];have e2:oH ((0,1):Q) (1,n)=(1,n):=mr ⟨h0,af⟩ aa af;rw [e2]
theorem sZ {p:List Int} {n:Nat} (hl:0<p.length) (h0:0<n):bdL n 1 (dQ p n):=by
 rw [ut hl h0];intro x hx;simp only [Zr,Xi] at hx;rcases hx with rfl | ⟨_,rfl⟩
 ·exact ⟨1,⟨⟨h0,af⟩,af⟩,ae⟩
 ·exact ⟨0,DL n,ae⟩
theorem vU {d:Nat} (hd:0<d):∀ {p:List Int} {s:List Q},(∀ x∈s,0<=x.1∧0<x.2∧x.2 ∣ d)->∀ t∈dl d p s,0<t.2
 | [],s,_,t,ht=>by trivial
 | p::ps,[],_,t,ht=>by trivial
 | p::ps,x::s,h,t,ht=>by
  have ih:=vU hd (p:=ps) (s:=s) fun y hy=>h y (by grind)
  obtain ⟨h0,h1,h2⟩:=h x af;have h3:0<d / x.2:=Wm (X9 hd h2) h1;simp only [dl] at ht;split at ht
  ·grind
  ·rename_i hx;simp only [Zr] at ht;rcases ht with rfl | ht
   ·exact Xk aa aa
   grind
theorem I8 {p:List Int} {x:Q} {s:List Q} (hp:0<p.length) (hx:x.1≠0):tq p (x::s)≠[]:=by
 cases p with
 | nil=>simp at hp
 | cons c p=>simp [tq,dl,hx]
theorem P8 {p:List Int} {n:Nat} (hl:0<p.length) (h0:0<n):∃ x:Q,rK p (dQ p n)=x::List.replicate (p.length-1) (0,1)∧0<x.1:=by
 obtain ⟨k,hk⟩:∃ k,p.length=k+1:=⟨p.length-1,aa⟩;rw [ut hl h0];unfold rK kr;rw [hk,List.replicate_succ];simp only [vW,pi,Xj]
 have e:∀ k,pi (2,1) (List.replicate k (0,1)) (List.replicate k (0,1))=List.replicate k (0,1):=by
  intro k
  induction k with
  | zero=>rfl
  | succ k ih=>
   rw [List.replicate_succ,pi,ih];have:oH ((0,1):Q) (lF (0,1) (2,1))=(0,1):=ae;rfl
 rw [e k];refine ⟨_,rfl,?_⟩;have r1:rp n ((1,n):Q) 1:=⟨⟨h0,af⟩,af⟩;have r2:=MQ (DL n) (Jm 2 r1);have h:=r2.2;have h':=r2.1.1;obtain ⟨y,hy⟩:∃ y:Q,y=oH (0,1) (lF (1,n) (2,1)):=⟨_,rfl⟩;rw [<- hy] at h h' ⊢;have h2:0<y.1*(n:Int):=by rw [h];omega
 by_cases hy0:0<y.1
 ·omega
 ·have:=W7 (a:=-y.1) (b:=(n:Int)) aa aa
  grind
theorem RA {z:Int} (h1 : -1<=z) (h2:z<=1):(wV z).natAbs<=1:=by
 have:z = -1∨z=0∨z=1:=aa;rcases this with rfl | rfl | rfl <;> decide
theorem SA {r:List Int} (hr:∀ x∈r,x.natAbs<=9):smR r=true:=by
 grind [smR]
theorem IN {p r:List Int} {n:Nat} {q:Int} (hl:0<p.length) (h0:0<n) (hr:∀ x∈r,x.natAbs<=9):bdL n (q.natAbs+9*n) (mU p n q (ofQ r)):=by
 have h1:bdL n (q.natAbs*1) (mf p n q):=sY (sZ hl h0);have h2:=Kn (b:=n) hr;have:=yI (n:=p.length) (z:=1) (w:=-1) h1 h2
 grind [mU]
theorem XQ {p:List Int} {s:List Q} {n b A:Nat} (hp:in6 p) (hl:0<p.length) (h0:0<n) (h1:n<=10000) (hb0:0<b) (hb1:b<=12) (hA1:A<=1000) (ls:s.length=p.length) (hs:bdL b A s) :
  ∃ q:Int,rT p (uD p s (dQ p n)) (rK p (dQ p n)) q∧q.natAbs<=(2*A*n+b)*n*48∧Vb p (uD p s (dQ p n)) (rK p (dQ p n)) q:=by
 have hb:=sZ hl h0 (p:=p)
 have hB:bdL n 2 (rK p (dQ p n)):=by
  have:=sY (n:=p.length) (z:=2) hb;simpa [rK] using this
 have hA:bdL (b*n) (2*A*n+b) (uD p s (dQ p n)):=by
  have b1:=vI n hs;have b2:=vI b hb;rw [Zx n b] at b2;have:=yI (n:=p.length) (z:=2) (w:=1) b1 b2;unfold uD;refine Kp this ?_;have e1:(2:Int).natAbs=2:=rfl;have e2:(1:Int).natAbs=1:=rfl;rw [e1,e2,Xp,Xp,Nat.mul_assoc];exact Z7 _
 have lst:(dQ p n).length=p.length:=Cc hl
 have la:(uD p s (dQ p n)).length=p.length:=mN fun t ht=>by
  grind
 have lb:(rK p (dQ p n)).length=p.length:=mN fun t ht=>by
  grind
 obtain ⟨x,hx,hx0⟩:=P8 hl h0 (p:=p)
 have c1:2*A*n+b<=20000012:=by
  have:2*A*n<=2000*10000:=Zs aa h1;omega
 have c2:b*n<=120000:=Zs hb1 h1;have m1:(2*A*n+b)*n<=20000012*10000:=Zs c1 h1;have m2:n*(6*(2*A*n+b))<=10000*(6*20000012):=Zs h1 (Z3 _ c1)
 have m3:8*(6*(2*A*n+b))*n*(b*n)*(6*2)<=8*(6*20000012)*10000*120000*(6*2):=Z0 _ (Zs (Zs (Z3 _ (Z3 _ c1)) h1) c2)
 exact R5 hp (Yz hb0 h0) h0 hA hB la lb (vU (lR ae fun y hy=>(He h0 hB y hy).1) fun y hy=>⟨by
   rw [hx] at hy;simp only [Zr,Xi] at hy;rcases hy with rfl | ⟨_,rfl⟩
   ·omega
   omega,(He h0 hB y hy).1,(oC (s:=rK p (dQ p n)) (d:=1)).2 y hy⟩) (by rw [hx];exact I8 hl aa) aa aa aa aa aa aa
theorem nr6 {p:List Int} {s:List Q} {n b A:Nat} (hp:in6 p) (hl:0<p.length) (h0:0<n) (h1:n<=10000) (hb0:0<b) (hb1:b<=12) (hA1:A<=1000) (ls:s.length=p.length) (hs:bdL b A s) :
  ∃ q:Int,rT p (uD p s (dQ p n)) (rK p (dQ p n)) q∧q.natAbs<=(2*A*n+b)*n*48:=by
 grind [XQ]
theorem er6 {p r:List Int} {n:Nat} (hpc:pcB p=0) (hp:in6 p) (hl:0<p.length) (h0:0<n) (h1:n<=10000) (lr:r.length=p.length) (hr:∀ x∈r,x.natAbs<=9) :
  ∃ q:Int,uh p n r q∧q.natAbs<=(18*n+1)*n*48:=by
 have hb:=sZ hl h0 (p:=p);have lo:(ofQ r).length=p.length:=by simp [ofQ,lr]
 have ho:bdL 1 9 (ofQ r):=Kn (b:=1) hr;obtain ⟨q,q1,q2⟩:=nr6 hp hl h0 h1 (b:=1) (A:=9) ae ae ae lo ho;have q2:q.natAbs<=(18*n+1)*n*48:=q2;have m1:(18*n+1)*n<=180001*10000:=Zs aa h1;have hq:q.natAbs<=86400480000:=aa
 refine ⟨q,⟨hpc,by have:=hp.2.1;omega,hl,h0,h1,lr,SA hr,mH h0 hb aa aa,?_,?_,q1,aa,aa,?_,?_⟩,q2⟩
 ·exact mH (b:=1) aa ho aa aa
 ·rw [ut hl h0];exact I8 hl af
 ·have h2:bdL n (q.natAbs*1) (mf p n q):=sY hb;exact mH h0 h2 aa aa
 ·exact mH h0 (IN hl h0 hr) aa aa
theorem rc6 {p r:List Int} {lim:Nat} (hpc:pcB p=0) (hp:in6 p) (hl:0<p.length) (hlim:lim<=100) (lr:r.length=p.length) (hr:∀ x∈r,x.natAbs<=9) :
  ∃ (qf zf:Nat->Int) (ls:Nat->Nat->Bool),RG p r lim qf zf ls:=by
 have H:∀ n,∃ w:Int × Int,1<=n->n<=lim->uh p n r w.1∧w.1.natAbs<=8644800∧xG p (mU p n w.1 (ofQ r)) w.2∧-1<=w.2∧w.2<=1:=by
  intro n;by_cases h:1<=n∧n<=lim
  ·obtain ⟨q,q1,q2⟩:=er6 (n:=n) hpc hp hl h.1 aa lr hr;have hn:n<=100:=aa;have m1:(18*n+1)*n<=1801*100:=Zs aa hn;have hq:q.natAbs<=8644800:=aa;obtain ⟨z,z1,z2,z3⟩:=sg6 hp h.1 (IN (q:=q) hl h.1 hr) aa;exact ⟨(q,z),fun _ _=>⟨q1,hq,z1,z2,z3⟩⟩
  ·exact ⟨(0,0),fun h1 h2=>absurd ⟨h1,h2⟩ h⟩
 obtain ⟨f,hf⟩:=Classical.axiomOfChoice H
 have hbA:∀ n,1<=n->n<=lim->bdL n (8644800+900) (oF p n r (f n).1 (f n).2):=by
  intro n h1 h2;obtain ⟨_,hq,_,z1,z2⟩:=hf n h1 h2;have:=sY (n:=p.length) (z:=wV (f n).2) (IN (q:=(f n).1) hl h1 hr);unfold oF PK;refine Kp this ?_;refine Z2 (Z0 _ (RA z1 z2)) ?_;omega
 have H2:∀ w:Nat × Nat,∃ z:Int,1<=w.2->w.2<w.1->w.1<=lim->xG p (dfS p (oF p w.1 r (f w.1).1 (f w.1).2) (oF p w.2 r (f w.2).1 (f w.2).2)) z:=by
  rintro ⟨n,m⟩;by_cases h:1<=m∧m<n∧n<=lim
  ·obtain ⟨h1,h2,h3⟩:=h;have b1:=vI m (hbA n aa h3);have b2:=vI n (hbA m h1 aa);rw [Zx m n] at b2;have b3:=yI (n:=p.length) (z:=1) (w:=-1) b1 b2;have e1:(8644800+900)*m<=(8644800+900)*100:=Z3 _ aa;have e2:(8644800+900)*n<=(8644800+900)*100:=Z3 _ aa
   obtain ⟨z,z1,_⟩:=sg6 hp (Yz aa aa) b3 (by
    grind)
   exact ⟨z,fun _ _ _=>z1⟩
  ·exact ⟨0,fun h1 h2 h3=>absurd ⟨h1,h2,h3⟩ h⟩
 obtain ⟨g,hg⟩:=Classical.axiomOfChoice H2;refine ⟨fun n=>(f n).1,fun n=>(f n).2,fun n m=>decide (g (n,m)<0),⟨fun n h1 h2=>(hf n h1 h2).1,fun n h1 h2=>(hf n h1 h2).2.2,fun n h1 h2=>mH h1 (hbA n h1 h2) aa aa,fun n m h1 h2 h3=>⟨g (n,m),hg (n,m) h1 h2 h3,rfl⟩⟩⟩
end Go.Vm
