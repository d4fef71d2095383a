/- Numbers as lists of digits to a base, the lowest one first. No program in sight. -/
import Derived.Test.YtaiahkcmdnaooaaGreatDoorQZ

set_option linter.unusedVariables false
set_option linter.unusedSimpArgs false
namespace Go.Big
def val (B:Nat):List Nat->Nat
 | []=>0
 | x::l=>x+B*val B l
def fD:List Nat->List Nat
 | []=>[]
 | x::l=>match fD l with
  | []=>if x=0 then [] else [x]
  | y::r=>x::y::r
def xX (B:Nat):Nat->Nat->List Nat
 | 0,_=>[]
 | f+1,n=>if n=0 then [] else n % B::xX B f (n / B)
def dig (B n:Nat):List Nat:=xX B n n
def aD (B:Nat) (l:List Nat):Prop:=∀ x∈l,x<B
section
variable {B:Nat}
theorem val_append (a b:List Nat):val B (a++b)=val B a+B ^ a.length*val B b:=by
 induction a with
 | nil=>simp [val]
 | cons x a ih=>grind [val]
theorem gO (hB:0<B) {l:List Nat} (h:aD B l):val B l<B ^ l.length:=by
 induction l with
 | nil=>simp [val]
 | cons x l ih=>
  have h1:=ih fun y hy=>h y (by grind)
  have h2:=h x af;simp only [val,List.length_cons,Nat.pow_succ];have:B*(val B l+1)<=B*B ^ l.length:=Z3 B h1
  grind
theorem aD.take {l:List Nat} (h:aD B l) (n:Nat):aD B (l.take n):=fun x hx=>h x (List.mem_of_mem_take hx)
theorem aD.drop {l:List Nat} (h:aD B l) (n:Nat):aD B (l.drop n):=fun x hx=>h x (List.mem_of_mem_drop hx)
theorem aD.get {l:List Nat} (h:aD B l) {i:Nat} (hi:i<l.length):l[i]<B:=h _ (W6 hi)
theorem aD.append {a b:List Nat} (ha:aD B a) (hb:aD B b):aD B (a++b):=fun x hx=>by
 rcases Xt.1 hx with h | h
 ·exact ha x h
 ·exact hb x h
theorem KI (l:List Nat):val B (fD l)=val B l:=by
 induction l with
 | nil=>rfl
 | cons x l ih=>
  grind [fD,val]
theorem Fa {l:List Nat} (h:aD B l):aD B (fD l):=by
 induction l with
 | nil=>exact h
 | cons x l ih=>
  have h1:=ih fun y hy=>h y (by grind)
  have hx:=h x af;unfold fD;split
  ·split
   ·grind
   ·intro y hy;grind
  ·rename_i y r he;rw [he] at h1;intro z hz;rcases Zr.1 hz with rfl | hz
   ·exact hx
   ·exact h1 z hz
def vM (l:List Nat):Prop:=∀ h:l≠[],l.getLast h≠0
theorem Hs (l:List Nat):vM (fD l):=by
 induction l with
 | nil=>intro h;trivial
 | cons x l ih=>
  unfold fD;split
  ·split
   ·grind
   ·rename_i hx;intro h;trivial
  ·rename_i y r he;rw [he] at ih;intro h;rw [List.getLast_cons af];exact ih af
theorem Bl {l:List Nat} (h:vM l):fD l=l:=by
 induction l with
 | nil=>rfl
 | cons x l ih=>
  unfold fD;cases l with
  | nil=>
   have:=h af
   grind [fD]
  | cons y r=>
   have:vM (y::r):=fun hh=>by have:=h af;rwa [List.getLast_cons af] at this
   grind
theorem mZ (l:List Nat):fD (l++[0])=fD l:=by
 induction l with
 | nil=>rfl
 | cons x l ih=>grind [fD]
theorem tA {l:List Nat} {x:Nat} (h:x≠0):fD (l++[x])=l++[x]:=Bl fun _=>by grind
theorem yD (hB:2<=B):∀ (f n:Nat),n<=f->val B (xX B f n)=n∧aD B (xX B f n)∧vM (xX B f n)
 | 0,n,h=>by
  have:n=0:=aa;subst this;exact ⟨rfl,fun x hx=>by trivial,fun hx=>absurd rfl hx⟩
 | f+1,n,h=>by
  unfold xX;split
  ·rename_i h0;subst h0;exact ⟨rfl,fun x hx=>by simp at hx,fun hx=>absurd rfl hx⟩
  ·rename_i h0;have hlt:n / B<n:=Nat.div_lt_self aa aa;obtain ⟨h1,h2,h3⟩:=yD hB f (n / B) aa;refine ⟨?_,?_,?_⟩
   ·grind [val,X3]
   ·intro x hx;rcases Zr.1 hx with rfl | hx
    ·exact Y3 _ aa
    ·exact h2 x hx
   ·intro hne;by_cases hd:xX B f (n / B)=[]
    ·simp only [hd];rw [hd] at h1;simp only [val] at h1
     have:n<B:=by
      rcases Zl n B with h | h
      ·exact h
      ·have:=Wm h (by omega:0<B);omega
     grind [Yp]
    ·rw [List.getLast_cons hd];exact h3 hd
theorem fF (hB:2<=B) (n:Nat):val B (dig B n)=n:=(yD hB n n (Z7 n)).1
theorem bL (hB:2<=B) (n:Nat):aD B (dig B n):=(yD hB n n (Z7 n)).2.1
theorem Ax (hB:2<=B) (n:Nat):vM (dig B n):=(yD hB n n (Z7 n)).2.2
theorem rO {l:List Nat} (h:vM l) (hl:l≠[]) (hB:0<B):val B l≠0:=by
 induction l with
 | nil=>trivial
 | cons x l ih=>
  cases l with
  | nil=>have:=h af;trivial
  | cons y r=>
   have hn:vM (y::r):=fun hh=>by have:=h af;rwa [List.getLast_cons af] at this
   have:=ih hn af;simp only [val] at this ⊢;have:=Yz hB (Nat.pos_of_ne_zero this);omega
theorem Gd (hB:0<B):∀ {a b:List Nat},aD B a->aD B b->vM a->vM b->val B a=val B b->a=b
 | [],[],_,_,_,_,_=>rfl
 | [],y::b,_,_,_,hb,h=>absurd h.symm (rO hb af hB)
 | x::a,[],_,_,ha,_,h=>absurd h (rO ha af hB)
 | x::a,y::b,sa,sb,na,nb,h=>by
  have hx:=sa x af;have hy:=sb y af;simp only [val] at h
  have e1:x=y:=by
   have:=congrArg (· % B) h;simpa [Yf,Yp hx,Yp hy] using this
  subst e1;have e2:val B a=val B b:=Yg hB aa;have tl:∀ {l:List Nat} {x:Nat},vM (x::l)->vM l:=fun {l x} h hl=>by have:=h af;grind
  rw [Gd hB (fun z hz=>sa z (by grind)) (fun z hz=>sb z (by grind)) (tl na) (tl nb) e2]
theorem nI (hB:2<=B) {l:List Nat} (h:aD B l):dig B (val B l)=fD l:=
 Gd aa (bL hB _) (Fa h) (Ax hB _) (Hs l) (by rw [fF hB,KI])
theorem lN (hB:2<=B) {n k:Nat}:(dig B n).length<=k↔n<B ^ k:=by
 have hv:=fF hB n;have hs:=gO aa (bL hB n);rw [hv] at hs;constructor
 ·intro h;exact Z1 hs (Z4 aa h)
 ·intro h;rcases Zl k (dig B n).length with hk | hk
  ·exfalso;have hne:dig B n≠[]:=by intro e;rw [e] at hk;simp at hk
   have hdrop:val B ((dig B n).drop k)≠0:=by
    refine rO ?_ (by grind [List.drop_eq_nil_iff]) aa;intro hd;rw [List.getLast_drop];exact Ax hB n hne
   have:=val_append (B:=B) ((dig B n).take k) ((dig B n).drop k);rw [Ye,hv,Zn,Y4 aa] at this;have:=Z3 (B ^ k) (Nat.pos_of_ne_zero hdrop);omega
  omega
def HX (a b:List Nat):Nat->Int
 | 0=>0
 | i+1=>if a.getD i 0<b.getD i 0 then -1 else if b.getD i 0<a.getD i 0 then 1 else HX a b i
def cmp (a b:Nat):Int:=if a<b then -1 else if b<a then 1 else 0
theorem JF (hB:0<B) {a b:List Nat} (ha:aD B a) (hb:aD B b):∀ i,i<=a.length->i<=b.length->HX a b i=cmp (val B (a.take i)) (val B (b.take i))
 | 0,_,_=>by rfl
 | i+1,h1,h2=>by
  have e:∀ (l:List Nat) (h:i<l.length),val B (l.take (i+1))=val B (l.take i)+B ^ i*l[i]:=fun l h=>by
   rw [List.take_add_one,val_append,Zn,Y4 aa]
   grind [val]
  have la:=gO hB (ha.take i);have lb:=gO hB (hb.take i);rw [Zn,Y4 aa] at la lb;rw [HX,e a aa,e b aa,JF hB ha hb i aa aa];have ga:a.getD i 0=a[i]:=by simp [show i<a.length by omega]
  have gb:b.getD i 0=b[i]:=by simp [show i<b.length by omega]
  rw [ga,gb];generalize a[i]=x,b[i]=y at *;unfold cmp;rcases Nat.lt_trichotomy x y with h | h | h
  ·rw [if_pos h];have:B ^ i*(x+1)<=B ^ i*y:=Z3 _ h;rw [Zp] at this;rw [if_pos aa]
  ·grind
  ·rw [if_neg aa,if_pos h];have:B ^ i*(y+1)<=B ^ i*x:=Z3 _ h;rw [Zp] at this;rw [if_neg aa,if_pos aa]
theorem Ez (hB:2<=B) {m n:Nat} (h:(dig B m).length<(dig B n).length):m<n:=by
 have h1:m<B ^ (dig B m).length:=(lN hB).1 (Z7 _);rcases Zl n (B ^ (dig B m).length) with h2 | h2
 ·have:=(lN hB).2 h2;omega
 ·omega
theorem mM (l:List Nat) (i:Nat):val B (l.drop i)=l.getD i 0+B*val B (l.drop (i+1)):=by
 by_cases h:i<l.length
 ·grind [Y7,val]
 ·rw [Zd aa,Zd aa];simp [val,List.getElem?_eq_none (by omega:l.length<=i)]
theorem aD.getD {l:List Nat} (h:aD B l) (hB:0<B) (i:Nat):l.getD i 0<B:=by
 by_cases hi:i<l.length
 ·simp_all [get]
 ·simp [List.getElem?_eq_none (by omega:l.length<=i),hB]
theorem E6 (l:List Nat) (x:Nat):val B (l++[x])=val B l+B ^ l.length*x:=by simp [val_append,val]
theorem kU (n:Nat):val B (List.replicate n 0)=0:=by
 induction n with
 | zero=>rfl
 | succ n ih=>grind [val]
theorem aD.snoc {l:List Nat} (h:aD B l) {x:Nat} (hx:x<B):aD B (l++[x]):=h.append fun y hy=>by grind
end
end Go.Big
namespace Go.Big
theorem GW {a b n:Nat} (hb:0<b) (h:b*2 ^ n<=a):a / b=2 ^ n+(a-b*2 ^ n) / b∧a % b=(a-b*2 ^ n) % b:=by
 obtain ⟨c,rfl⟩:∃ c,a=c+b*2 ^ n:=⟨a-b*2 ^ n,aa⟩;rw [Xj,Yx _ _ hb,Yf];exact ⟨aa,rfl⟩
def Eg (w:Nat):Nat->Nat->Nat->Nat->Option Nat
 | 0,_,_,out=>some out
 | n+1,low,high,out=>
  if 2 ^ (w+1)<=low*low / 2 ^ w then Eg w n (low*low / 2 ^ w / 2) (((if high*high / 2 ^ w*2 ^ w=high*high then high*high / 2 ^ w else high*high / 2 ^ w+1)+1) / 2) (out*2+1)
  else if 2 ^ (w+1)<=(if high*high / 2 ^ w*2 ^ w=high*high then high*high / 2 ^ w else high*high / 2 ^ w+1) then none
  else Eg w n (low*low / 2 ^ w) (if high*high / 2 ^ w*2 ^ w=high*high then high*high / 2 ^ w else high*high / 2 ^ w+1) (out*2)
theorem sj {B:Nat}:∀ (l:List Nat) (j x:Nat),j<l.length->val B (l.set j x)+B ^ j*l.getD j 0=val B l+B ^ j*x
 | [],j,x,h=>by simp at h
 | y::l,0,x,h=>by simp [val];omega
 | y::l,j+1,x,h=>by
  have:=sj (B:=B) l j x (by simpa using h);simp only [List.set_cons_succ,val,List.getD_cons_succ,Nat.pow_succ];rw [Zx (B ^ j) B,Nat.mul_assoc,Nat.mul_assoc];generalize val B (l.set j x)=p at *;generalize B ^ j*l.getD j 0=q at *;generalize B ^ j*x=r at *;have h2:B*(p+q)=B*(val B l+r):=by rw [this]
  rw [Zp,Zp] at h2;omega
theorem aD.set {B:Nat} {l:List Nat} (h:aD B l) {j x:Nat} (hx:x<B):aD B (l.set j x):=by
 intro y hy;rcases Yv hy with h1 | h1
 ·exact h y h1
 ·subst h1;exact hx
theorem tn {B:Nat} (l:List Nat) {i:Nat} (h:i<l.length):val B (l.take (i+1))=val B (l.take i)+B ^ i*l.getD i 0:=by
 rw [List.take_add_one,val_append,Zn,Y4 aa];simp [List.getElem?_eq_getElem h,val]
theorem NO {B:Nat} {o:List Nat} {j c a y v:Nat} (hj:j<o.length) :
  val B (o.set j ((c+o.getD j 0+a*y) % B))+B ^ (j+1)*((c+o.getD j 0+a*y) / B+a*v)=val B o+B ^ j*(c+a*(y+B*v)):=by
 have h:=sj (B:=B) o j ((c+o.getD j 0+a*y) % B) hj;generalize val B (o.set j ((c+o.getD j 0+a*y) % B))=p at *;generalize o.getD j 0=w at *;have hd:=X3 (c+w+a*y) B;generalize (c+w+a*y) % B=r at *;generalize (c+w+a*y) / B=d at *;generalize val B o=q at *;generalize hP:B ^ j=P at *;rw [Nat.pow_succ,hP,Nat.mul_assoc]
 have e1:P*(B*(d+a*v))+P*r=P*(c+w+a*y)+P*(a*(B*v)):=by
  rw [<- Zp,<- Zp,<- hd,Zp B,Za a B v];congr 1;omega
 have e2:P*(c+a*(y+B*v))+P*w=P*(c+w+a*y)+P*(a*(B*v)):=by
  rw [<- Zp,<- Zp,Zp a];congr 1;omega
 omega
end Go.Big
