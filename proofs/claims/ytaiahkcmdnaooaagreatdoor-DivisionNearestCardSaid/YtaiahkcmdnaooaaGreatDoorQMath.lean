/- Numbers as lists of digits to a base, the lowest one first. No program in sight. -/
import Derived.Test.YtaiahkcmdnaooaaGreatDoorQZ

set_option linter.unusedVariables false
set_option linter.unusedSimpArgs false
namespace Go.Big
def val (B:Nat):List Nat->Nat
 | []=>0
 | x::l=>x+B*val B l
def eQ:List Nat->List Nat
 | []=>[]
 | x::l=>match eQ l with
  | []=>if x=0 then [] else [x]
  | y::r=>x::y::r
def vE (B:Nat):Nat->Nat->List Nat
 | 0,_=>[]
 | f+1,n=>if n=0 then [] else n % B::vE B f (n / B)
def dig (B n:Nat):List Nat:=vE B n n
def au (B:Nat) (l:List Nat):Prop:=∀ x∈l,x<B
section
variable {B:Nat}
theorem val_append (a b:List Nat):val B (a++b)=val B a+B ^ a.length*val B b:=by
 induction a with
 | nil=>simp [val]
 | cons x a ih=>simp only [List.cons_append,val,ih,List.length_cons,Nat.pow_succ,Zq];rw [Zy (B ^ a.length) B,Nat.mul_assoc];omega
theorem gF (hB:0<B) {l:List Nat} (h:au B l):val B l<B ^ l.length:=by
 induction l with
 | nil=>simp [val]
 | cons x l ih=>
  have h1:=ih fun y hy=>h y (by simp [hy])
  have h2:=h x (by simp);simp only [val,List.length_cons,Nat.pow_succ];have:B*(val B l+1)<=B*B ^ l.length:=Z4 B h1;rw [Zy (B ^ l.length) B];rw [Zq] at this;omega
theorem au.take {l:List Nat} (h:au B l) (n:Nat):au B (l.take n):=fun x hx=>h x (List.mem_of_mem_take hx)
theorem au.drop {l:List Nat} (h:au B l) (n:Nat):au B (l.drop n):=fun x hx=>h x (List.mem_of_mem_drop hx)
theorem au.get {l:List Nat} (h:au B l) {i:Nat} (hi:i<l.length):l[i]<B:=h _ (Xn hi)
theorem au.append {a b:List Nat} (ha:au B a) (hb:au B b):au B (a++b):=fun x hx=>by
 rcases Yc.1 hx with h | h
 ·exact ha x h
 ·exact hb x h
theorem I5 (l:List Nat):val B (eQ l)=val B l:=by
 induction l with
 | nil=>rfl
 | cons x l ih=>
  unfold eQ;split
  ·rename_i h;rw [h] at ih;split
   ·rename_i hx;simp [val,<- ih,hx]
   ·simp [val,<- ih]
  ·rename_i y r h;rw [h] at ih;simp only [val] at ih ⊢;rw [ih]
theorem Dn {l:List Nat} (h:au B l):au B (eQ l):=by
 induction l with
 | nil=>exact h
 | cons x l ih=>
  have h1:=ih fun y hy=>h y (by simp [hy])
  have hx:=h x (by simp);unfold eQ;split
  ·split
   ·intro y hy;cases hy
   ·intro y hy;simp at hy;omega
  ·rename_i y r he;rw [he] at h1;intro z hz;rcases Zt.1 hz with rfl | hz
   ·exact hx
   ·exact h1 z hz
def uP (l:List Nat):Prop:=∀ h:l≠[],l.getLast h≠0
theorem FU (l:List Nat):uP (eQ l):=by
 induction l with
 | nil=>intro h;exact absurd rfl h
 | cons x l ih=>
  unfold eQ;split
  ·split
   ·intro h;exact absurd rfl h
   ·rename_i hx;intro h;simpa using hx
  ·rename_i y r he;rw [he] at ih;intro h;rw [Ww (by simp)];exact ih (by simp)
theorem zH {l:List Nat} (h:uP l):eQ l=l:=by
 induction l with
 | nil=>rfl
 | cons x l ih=>
  unfold eQ;cases l with
  | nil=>
   have:=h (by simp);simp at this;simp [eQ,this]
  | cons y r=>
   have:uP (y::r):=fun hh=>by have:=h (by simp);rwa [Ww (by simp)] at this
   rw [ih this]
theorem md (l:List Nat):eQ (l++[0])=eQ l:=by
 induction l with
 | nil=>rfl
 | cons x l ih=>simp only [List.cons_append,eQ,ih]
theorem sF {l:List Nat} {x:Nat} (h:x≠0):eQ (l++[x])=l++[x]:=zH fun _=>by simpa using h
theorem xp (hB:2<=B):∀ (f n:Nat),n<=f->val B (vE B f n)=n∧au B (vE B f n)∧uP (vE B f n)
 | 0,n,h=>by
  have:n=0:=by omega
  subst this;exact ⟨rfl,fun x hx=>by simp [vE] at hx,fun hx=>absurd rfl hx⟩
 | f+1,n,h=>by
  unfold vE;split
  ·rename_i h0;subst h0;exact ⟨rfl,fun x hx=>by simp at hx,fun hx=>absurd rfl hx⟩
  ·rename_i h0;have hlt:n / B<n:=Nat.div_lt_self (by omega) (by omega);obtain ⟨h1,h2,h3⟩:=xp hB f (n / B) (by omega);refine ⟨?_,?_,?_⟩
   ·simp only [val,h1];exact Xp n B
   ·intro x hx;rcases Zt.1 hx with rfl | hx
    ·exact Y8 _ (by omega)
    ·exact h2 x hx
   ·intro hne;by_cases hd:vE B f (n / B)=[]
    ·simp only [hd];rw [hd] at h1;simp only [val] at h1
     have:n<B:=by
      rcases Zo n B with h | h
      ·exact h
      ·have:=Wb h (by omega:0<B);omega
     simp only [List.getLast_singleton];rw [Yh this];exact h0
    ·rw [Ww hd];exact h3 hd
theorem fq (hB:2<=B) (n:Nat):val B (dig B n)=n:=(xp hB n n (Z7 n)).1
theorem bB (hB:2<=B) (n:Nat):au B (dig B n):=(xp hB n n (Z7 n)).2.1
theorem y9 (hB:2<=B) (n:Nat):uP (dig B n):=(xp hB n n (Z7 n)).2.2
theorem qK {l:List Nat} (h:uP l) (hl:l≠[]) (hB:0<B):val B l≠0:=by
 induction l with
 | nil=>exact absurd rfl hl
 | cons x l ih=>
  cases l with
  | nil=>have:=h (by simp);simp at this;simpa [val] using this
  | cons y r=>
   have hn:uP (y::r):=fun hh=>by have:=h (by simp);rwa [Ww (by simp)] at this
   have:=ih hn (by simp);simp only [val] at this ⊢;have:=Yu hB (Nat.pos_of_ne_zero this);omega
theorem EA (hB:0<B):∀ {a b:List Nat},au B a->au B b->uP a->uP b->val B a=val B b->a=b
 | [],[],_,_,_,_,_=>rfl
 | [],y::b,_,_,_,hb,h=>absurd h.symm (qK hb (by simp) hB)
 | x::a,[],_,_,ha,_,h=>absurd h (qK ha (by simp) hB)
 | x::a,y::b,sa,sb,na,nb,h=>by
  have hx:=sa x (by simp);have hy:=sb y (by simp);simp only [val] at h
  have e1:x=y:=by
   have:=congrArg (· % B) h;simpa [X0,Yh hx,Yh hy] using this
  subst e1;have e2:val B a=val B b:=X3 hB (by omega);have tl:∀ {l:List Nat} {x:Nat},uP (x::l)->uP l:=fun {l x} h hl=>by have:=h (by simp);rwa [Ww hl] at this
  rw [EA hB (fun z hz=>sa z (by simp [hz])) (fun z hz=>sb z (by simp [hz])) (tl na) (tl nb) e2]
theorem mI (hB:2<=B) {l:List Nat} (h:au B l):dig B (val B l)=eQ l:=
 EA (by omega) (bB hB _) (Dn h) (y9 hB _) (FU l) (by rw [fq hB,I5])
theorem kT (hB:2<=B) {n k:Nat}:(dig B n).length<=k↔n<B ^ k:=by
 have hv:=fq hB n;have hs:=gF (by omega) (bB hB n);rw [hv] at hs;constructor
 ·intro h;exact Z2 hs (Z5 (by omega) h)
 ·intro h;rcases Zo k (dig B n).length with hk | hk
  ·exfalso;have hne:dig B n≠[]:=by intro e;rw [e] at hk;simp at hk
   have hdrop:val B ((dig B n).drop k)≠0:=by
    refine qK ?_ (by intro e;rw [List.drop_eq_nil_iff] at e;omega) (by omega);intro hd;rw [List.getLast_drop];exact y9 hB n hne
   have:=val_append (B:=B) ((dig B n).take k) ((dig B n).drop k);rw [Xz,hv,Zr,Za (by omega)] at this;have:=Z4 (B ^ k) (Nat.pos_of_ne_zero hdrop);omega
  ·exact hk
def Eu (a b:List Nat):Nat->Int
 | 0=>0
 | i+1=>if a.getD i 0<b.getD i 0 then -1 else if b.getD i 0<a.getD i 0 then 1 else Eu a b i
def cmp (a b:Nat):Int:=if a<b then -1 else if b<a then 1 else 0
theorem HU (hB:0<B) {a b:List Nat} (ha:au B a) (hb:au B b):∀ i,i<=a.length->i<=b.length->Eu a b i=cmp (val B (a.take i)) (val B (b.take i))
 | 0,_,_=>by simp [Eu,cmp,val]
 | i+1,h1,h2=>by
  have e:∀ (l:List Nat) (h:i<l.length),val B (l.take (i+1))=val B (l.take i)+B ^ i*l[i]:=fun l h=>by
   rw [List.take_add_one,val_append,Zr,Za (by omega)];simp [List.getElem?_eq_getElem h,val]
  have la:=gF hB (ha.take i);have lb:=gF hB (hb.take i);rw [Zr,Za (by omega)] at la lb;rw [Eu,e a (by omega),e b (by omega),HU hB ha hb i (by omega) (by omega)];have ga:a.getD i 0=a[i]:=by simp [show i<a.length by omega]
  have gb:b.getD i 0=b[i]:=by simp [show i<b.length by omega]
  rw [ga,gb];generalize a[i]=x,b[i]=y at *;unfold cmp;rcases Nat.lt_trichotomy x y with h | h | h
  ·rw [if_pos h];have:B ^ i*(x+1)<=B ^ i*y:=Z4 _ h;rw [Zq] at this;rw [if_pos (by omega)]
  ·subst h;simp only [Nat.lt_irrefl,if_false,Nat.add_lt_add_iff_right]
  ·rw [if_neg (by omega),if_pos h];have:B ^ i*(y+1)<=B ^ i*x:=Z4 _ h;rw [Zq] at this;rw [if_neg (by omega),if_pos (by omega)]
theorem CE (hB:2<=B) {m n:Nat} (h:(dig B m).length<(dig B n).length):m<n:=by
 have h1:m<B ^ (dig B m).length:=(kT hB).1 (Z7 _);rcases Zo n (B ^ (dig B m).length) with h2 | h2
 ·have:=(kT hB).2 h2;omega
 ·omega
theorem lU (l:List Nat) (i:Nat):val B (l.drop i)=l.getD i 0+B*val B (l.drop (i+1)):=by
 by_cases h:i<l.length
 ·rw [Yy h];simp [val,h]
 ·rw [Y9 (by omega),Y9 (by omega)];simp [val,List.getElem?_eq_none (by omega:l.length<=i)]
theorem au.getD {l:List Nat} (h:au B l) (hB:0<B) (i:Nat):l.getD i 0<B:=by
 by_cases hi:i<l.length
 ·simp [hi];exact h.get hi
 ·simp [List.getElem?_eq_none (by omega:l.length<=i),hB]
theorem Dj (l:List Nat) (x:Nat):val B (l++[x])=val B l+B ^ l.length*x:=by simp [val_append,val]
theorem kE (n:Nat):val B (List.replicate n 0)=0:=by
 induction n with
 | zero=>rfl
 | succ n ih=>simp [List.replicate_succ,val,ih]
theorem au.snoc {l:List Nat} (h:au B l) {x:Nat} (hx:x<B):au B (l++[x]):=h.append fun y hy=>by simp at hy;omega
end
end Go.Big
namespace Go.Big
theorem Fp {a b n:Nat} (hb:0<b) (h:b*2 ^ n<=a):a / b=2 ^ n+(a-b*2 ^ n) / b∧a % b=(a-b*2 ^ n) % b:=by
 obtain ⟨c,rfl⟩:∃ c,a=c+b*2 ^ n:=⟨a-b*2 ^ n,by omega⟩;rw [Xa,Yt _ _ hb,X0];exact ⟨by omega,rfl⟩
def Cj (w:Nat):Nat->Nat->Nat->Nat->Option Nat
 | 0,_,_,out=>some out
 | n+1,low,high,out=>
  if 2 ^ (w+1)<=low*low / 2 ^ w then Cj w n (low*low / 2 ^ w / 2) (((if high*high / 2 ^ w*2 ^ w=high*high then high*high / 2 ^ w else high*high / 2 ^ w+1)+1) / 2) (out*2+1)
  else if 2 ^ (w+1)<=(if high*high / 2 ^ w*2 ^ w=high*high then high*high / 2 ^ w else high*high / 2 ^ w+1) then none
  else Cj w n (low*low / 2 ^ w) (if high*high / 2 ^ w*2 ^ w=high*high then high*high / 2 ^ w else high*high / 2 ^ w+1) (out*2)
theorem re {B:Nat}:∀ (l:List Nat) (j x:Nat),j<l.length->val B (l.set j x)+B ^ j*l.getD j 0=val B l+B ^ j*x
 | [],j,x,h=>by simp at h
 | y::l,0,x,h=>by simp [val];omega
 | y::l,j+1,x,h=>by
  have:=re (B:=B) l j x (by simpa using h);simp only [List.set_cons_succ,val,List.getD_cons_succ,Nat.pow_succ];rw [Zy (B ^ j) B,Nat.mul_assoc,Nat.mul_assoc];generalize val B (l.set j x)=p at *;generalize B ^ j*l.getD j 0=q at *;generalize B ^ j*x=r at *;have h2:B*(p+q)=B*(val B l+r):=by rw [this]
  rw [Zq,Zq] at h2;omega
theorem au.set {B:Nat} {l:List Nat} (h:au B l) {j x:Nat} (hx:x<B):au B (l.set j x):=by
 intro y hy;rcases Yr hy with h1 | h1
 ·exact h y h1
 ·subst h1;exact hx
theorem rY {B:Nat} (l:List Nat) {i:Nat} (h:i<l.length):val B (l.take (i+1))=val B (l.take i)+B ^ i*l.getD i 0:=by
 rw [List.take_add_one,val_append,Zr,Za (by omega)];simp [List.getElem?_eq_getElem h,val]
theorem LI {B:Nat} {o:List Nat} {j c a y v:Nat} (hj:j<o.length) :
  val B (o.set j ((c+o.getD j 0+a*y) % B))+B ^ (j+1)*((c+o.getD j 0+a*y) / B+a*v)=val B o+B ^ j*(c+a*(y+B*v)):=by
 have h:=re (B:=B) o j ((c+o.getD j 0+a*y) % B) hj;generalize val B (o.set j ((c+o.getD j 0+a*y) % B))=p at *;generalize o.getD j 0=w at *;have hd:=Xp (c+w+a*y) B;generalize (c+w+a*y) % B=r at *;generalize (c+w+a*y) / B=d at *;generalize val B o=q at *;generalize hP:B ^ j=P at *;rw [Nat.pow_succ,hP,Nat.mul_assoc]
 have e1:P*(B*(d+a*v))+P*r=P*(c+w+a*y)+P*(a*(B*v)):=by
  rw [<- Zq,<- Zq,<- hd,Zq B,Y4 a B v];congr 1;omega
 have e2:P*(c+a*(y+B*v))+P*w=P*(c+w+a*y)+P*(a*(B*v)):=by
  rw [<- Zq,<- Zq,Zq a];congr 1;omega
 omega
end Go.Big
