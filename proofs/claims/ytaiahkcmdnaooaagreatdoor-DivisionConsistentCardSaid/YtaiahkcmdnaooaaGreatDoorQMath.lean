/- Numbers as lists of digits to a base, the lowest one first. No program in sight. -/
import Derived.Test.YtaiahkcmdnaooaaGreatDoorQZ

set_option linter.unusedVariables false
set_option linter.unusedSimpArgs false
namespace Go.Big
def val (B:Nat):List Nat->Nat
 | []=>0
 | x::l=>x+B*val B l
def gD:List Nat->List Nat
 | []=>[]
 | x::l=>match gD l with
  | []=>if x=0 then [] else [x]
  | y::r=>x::y::r
def zD (B:Nat):Nat->Nat->List Nat
 | 0,_=>[]
 | f+1,n=>if n=0 then [] else n % B::zD B f (n / B)
def dig (B n:Nat):List Nat:=zD B n n
def aH (B:Nat) (l:List Nat):Prop:=∀ x∈l,x<B
section
variable {B:Nat}
theorem val_append (a b:List Nat):val B (a++b)=val B a+B ^ a.length*val B b:=by
 induction a with
 | nil=>simp [val]
 | cons x a ih=>simp only [List.cons_append,val,ih,List.length_cons,Nat.pow_succ,Zp];rw [Zy (B ^ a.length) B,Nat.mul_assoc];omega
theorem iT (hB:0<B) {l:List Nat} (h:aH B l):val B l<B ^ l.length:=by
 induction l with
 | nil=>simp [val]
 | cons x l ih=>
  have h1:=ih fun y hy=>h y (by simp [hy])
  have h2:=h x ag;simp only [val,List.length_cons,Nat.pow_succ];have:B*(val B l+1)<=B*B ^ l.length:=Z5 B h1;rw [Zy (B ^ l.length) B];rw [Zp] at this;omega
theorem aH.take {l:List Nat} (h:aH B l) (n:Nat):aH B (l.take n):=fun x hx=>h x (List.mem_of_mem_take hx)
theorem aH.drop {l:List Nat} (h:aH B l) (n:Nat):aH B (l.drop n):=fun x hx=>h x (List.mem_of_mem_drop hx)
theorem aH.get {l:List Nat} (h:aH B l) {i:Nat} (hi:i<l.length):l[i]<B:=h _ (Xx hi)
theorem aH.append {a b:List Nat} (ha:aH B a) (hb:aH B b):aH B (a++b):=fun x hx=>by
 rcases Xa.1 hx with h | h
 ·exact ha x h
 ·exact hb x h
theorem N0 (l:List Nat):val B (gD l)=val B l:=by
 induction l with
 | nil=>rfl
 | cons x l ih=>
  unfold gD;split
  ·rename_i h;rw [h] at ih;split
   ·rename_i hx;simp [val,<- ih,hx]
   ·simp [val,<- ih]
  ·rename_i y r h;rw [h] at ih;simp only [val] at ih ⊢;rw [ih]
theorem If {l:List Nat} (h:aH B l):aH B (gD l):=by
 induction l with
 | nil=>exact h
 | cons x l ih=>
  have h1:=ih fun y hy=>h y (by simp [hy])
  have hx:=h x ag;unfold gD;split
  ·split
   ·intro y hy;cases hy
   ·intro y hy;simp at hy;omega
  ·rename_i y r he;rw [he] at h1;intro z hz;rcases Zt.1 hz with rfl | hz
   ·exact hx
   ·exact h1 z hz
def yG (l:List Nat):Prop:=∀ h:l≠[],l.getLast h≠0
theorem KN (l:List Nat):yG (gD l):=by
 induction l with
 | nil=>intro h;exact absurd rfl h
 | cons x l ih=>
  unfold gD;split
  ·split
   ·intro h;exact absurd rfl h
   ·rename_i hx;intro h;simpa using hx
  ·rename_i y r he;rw [he] at ih;intro h;rw [Wp ag];exact ih ag
theorem D9 {l:List Nat} (h:yG l):gD l=l:=by
 induction l with
 | nil=>rfl
 | cons x l ih=>
  unfold gD;cases l with
  | nil=>
   have:=h ag;simp at this;simp [gD,this]
  | cons y r=>
   have:yG (y::r):=fun hh=>by have:=h ag;rwa [Wp ag] at this
   rw [ih this]
theorem po (l:List Nat):gD (l++[0])=gD l:=by
 induction l with
 | nil=>rfl
 | cons x l ih=>simp only [List.cons_append,gD,ih]
theorem wt {l:List Nat} {x:Nat} (h:x≠0):gD (l++[x])=l++[x]:=D9 fun _=>by simpa using h
theorem Bz (hB:2<=B):∀ (f n:Nat),n<=f->val B (zD B f n)=n∧aH B (zD B f n)∧yG (zD B f n)
 | 0,n,h=>by
  have:n=0:=aa;subst this;exact ⟨rfl,fun x hx=>by simp [zD] at hx,fun hx=>absurd rfl hx⟩
 | f+1,n,h=>by
  unfold zD;split
  ·rename_i h0;subst h0;exact ⟨rfl,fun x hx=>by simp at hx,fun hx=>absurd rfl hx⟩
  ·rename_i h0;have hlt:n / B<n:=Nat.div_lt_self aa aa;obtain ⟨h1,h2,h3⟩:=Bz hB f (n / B) aa;refine ⟨?_,?_,?_⟩
   ·simp only [val,h1];exact Xp n B
   ·intro x hx;rcases Zt.1 hx with rfl | hx
    ·exact Yw _ aa
    ·exact h2 x hx
   ·intro hne;by_cases hd:zD B f (n / B)=[]
    ·simp only [hd];rw [hd] at h1;simp only [val] at h1
     have:n<B:=by
      rcases Zj n B with h | h
      ·exact h
      ·have:=Wc h (by omega:0<B);omega
     simp only [List.getLast_singleton];rw [Yf this];exact h0
    ·rw [Wp hd];exact h3 hd
theorem gS (hB:2<=B) (n:Nat):val B (dig B n)=n:=(Bz hB n n (Z7 n)).1
theorem cj (hB:2<=B) (n:Nat):aH B (dig B n):=(Bz hB n n (Z7 n)).2.1
theorem Dj (hB:2<=B) (n:Nat):yG (dig B n):=(Bz hB n n (Z7 n)).2.2
theorem uV {l:List Nat} (h:yG l) (hl:l≠[]) (hB:0<B):val B l≠0:=by
 induction l with
 | nil=>exact absurd rfl hl
 | cons x l ih=>
  cases l with
  | nil=>have:=h ag;simp at this;simpa [val] using this
  | cons y r=>
   have hn:yG (y::r):=fun hh=>by have:=h ag;rwa [Wp ag] at this
   have:=ih hn ag;simp only [val] at this ⊢;have:=Ys hB (Nat.pos_of_ne_zero this);omega
theorem Jm (hB:0<B):∀ {a b:List Nat},aH B a->aH B b->yG a->yG b->val B a=val B b->a=b
 | [],[],_,_,_,_,_=>rfl
 | [],y::b,_,_,_,hb,h=>absurd h.symm (uV hb ag hB)
 | x::a,[],_,_,ha,_,h=>absurd h (uV ha ag hB)
 | x::a,y::b,sa,sb,na,nb,h=>by
  have hx:=sa x ag;have hy:=sb y ag;simp only [val] at h
  have e1:x=y:=by
   have:=congrArg (· % B) h;simpa [Xz,Yf hx,Yf hy] using this
  subst e1;have e2:val B a=val B b:=X0 hB aa;have tl:∀ {l:List Nat} {x:Nat},yG (x::l)->yG l:=fun {l x} h hl=>by have:=h ag;rwa [Wp hl] at this
  rw [Jm hB (fun z hz=>sa z (by simp [hz])) (fun z hz=>sb z (by simp [hz])) (tl na) (tl nb) e2]
theorem pU (hB:2<=B) {l:List Nat} (h:aH B l):dig B (val B l)=gD l:=
 Jm aa (cj hB _) (If h) (Dj hB _) (KN l) (by rw [gS hB,N0])
theorem nS (hB:2<=B) {n k:Nat}:(dig B n).length<=k↔n<B ^ k:=by
 have hv:=gS hB n;have hs:=iT aa (cj hB n);rw [hv] at hs;constructor
 ·intro h;exact Z0 hs (Z2 aa h)
 ·intro h;rcases Zj k (dig B n).length with hk | hk
  ·exfalso;have hne:dig B n≠[]:=by intro e;rw [e] at hk;simp at hk
   have hdrop:val B ((dig B n).drop k)≠0:=by
    refine uV ?_ (by intro e;rw [List.drop_eq_nil_iff] at e;omega) aa;intro hd;rw [List.getLast_drop];exact Dj hB n hne
   have:=val_append (B:=B) ((dig B n).take k) ((dig B n).drop k);rw [Xy,hv,Zh,Yu aa] at this;have:=Z5 (B ^ k) (Nat.pos_of_ne_zero hdrop);omega
  ·exact hk
def Jg (a b:List Nat):Nat->Int
 | 0=>0
 | i+1=>if a.getD i 0<b.getD i 0 then -1 else if b.getD i 0<a.getD i 0 then 1 else Jg a b i
def cmp (a b:Nat):Int:=if a<b then -1 else if b<a then 1 else 0
theorem MP (hB:0<B) {a b:List Nat} (ha:aH B a) (hb:aH B b):∀ i,i<=a.length->i<=b.length->Jg a b i=cmp (val B (a.take i)) (val B (b.take i))
 | 0,_,_=>by simp [Jg,cmp,val]
 | i+1,h1,h2=>by
  have e:∀ (l:List Nat) (h:i<l.length),val B (l.take (i+1))=val B (l.take i)+B ^ i*l[i]:=fun l h=>by
   rw [W6,val_append,Zh,Yu aa];simp [List.getElem?_eq_getElem h,val]
  have la:=iT hB (ha.take i);have lb:=iT hB (hb.take i);rw [Zh,Yu aa] at la lb;rw [Jg,e a aa,e b aa,MP hB ha hb i aa aa];have ga:a.getD i 0=a[i]:=by simp [show i<a.length by omega]
  have gb:b.getD i 0=b[i]:=by simp [show i<b.length by omega]
  rw [ga,gb];generalize a[i]=x,b[i]=y at *;unfold cmp;rcases Nat.lt_trichotomy x y with h | h | h
  ·rw [if_pos h];have:B ^ i*(x+1)<=B ^ i*y:=Z5 _ h;rw [Zp] at this;rw [if_pos aa]
  ·subst h;simp only [Nat.lt_irrefl,if_false,Nat.add_lt_add_iff_right]
  ·rw [if_neg aa,if_pos h];have:B ^ i*(y+1)<=B ^ i*x:=Z5 _ h;rw [Zp] at this;rw [if_neg aa,if_pos aa]
theorem Hm (hB:2<=B) {m n:Nat} (h:(dig B m).length<(dig B n).length):m<n:=by
 have h1:m<B ^ (dig B m).length:=(nS hB).1 (Z7 _);rcases Zj n (B ^ (dig B m).length) with h2 | h2
 ·have:=(nS hB).2 h2;omega
 ·omega
theorem oS (l:List Nat) (i:Nat):val B (l.drop i)=l.getD i 0+B*val B (l.drop (i+1)):=by
 by_cases h:i<l.length
 ·rw [Yv h];simp [val,h]
 ·rw [Y8 aa,Y8 aa];simp [val,List.getElem?_eq_none (by omega:l.length<=i)]
theorem aH.getD {l:List Nat} (h:aH B l) (hB:0<B) (i:Nat):l.getD i 0<B:=by
 by_cases hi:i<l.length
 ·simp [hi];exact h.get hi
 ·simp [List.getElem?_eq_none (by omega:l.length<=i),hB]
theorem H5 (l:List Nat) (x:Nat):val B (l++[x])=val B l+B ^ l.length*x:=by simp [val_append,val]
theorem m9 (n:Nat):val B (List.replicate n 0)=0:=by
 induction n with
 | zero=>rfl
 | succ n ih=>simp [List.replicate_succ,val,ih]
theorem aH.snoc {l:List Nat} (h:aH B l) {x:Nat} (hx:x<B):aH B (l++[x]):=h.append fun y hy=>by simp at hy;omega
end
end Go.Big
namespace Go.Big
theorem Kc {a b n:Nat} (hb:0<b) (h:b*2 ^ n<=a):a / b=2 ^ n+(a-b*2 ^ n) / b∧a % b=(a-b*2 ^ n) % b:=by
 obtain ⟨c,rfl⟩:∃ c,a=c+b*2 ^ n:=⟨a-b*2 ^ n,aa⟩;rw [Xi,Yn _ _ hb,Xz];exact ⟨aa,rfl⟩
def GZ (w:Nat):Nat->Nat->Nat->Nat->Option Nat
 | 0,_,_,out=>some out
 | n+1,low,high,out=>
  if 2 ^ (w+1)<=low*low / 2 ^ w then GZ w n (low*low / 2 ^ w / 2) (((if high*high / 2 ^ w*2 ^ w=high*high then high*high / 2 ^ w else high*high / 2 ^ w+1)+1) / 2) (out*2+1)
  else if 2 ^ (w+1)<=(if high*high / 2 ^ w*2 ^ w=high*high then high*high / 2 ^ w else high*high / 2 ^ w+1) then none
  else GZ w n (low*low / 2 ^ w) (if high*high / 2 ^ w*2 ^ w=high*high then high*high / 2 ^ w else high*high / 2 ^ w+1) (out*2)
theorem vm {B:Nat}:∀ (l:List Nat) (j x:Nat),j<l.length->val B (l.set j x)+B ^ j*l.getD j 0=val B l+B ^ j*x
 | [],j,x,h=>by simp at h
 | y::l,0,x,h=>by simp [val];omega
 | y::l,j+1,x,h=>by
  have:=vm (B:=B) l j x (by simpa using h);simp only [List.set_cons_succ,val,List.getD_cons_succ,Nat.pow_succ];rw [Zy (B ^ j) B,Nat.mul_assoc,Nat.mul_assoc];generalize val B (l.set j x)=p at *;generalize B ^ j*l.getD j 0=q at *;generalize B ^ j*x=r at *;have h2:B*(p+q)=B*(val B l+r):=by rw [this]
  rw [Zp,Zp] at h2;omega
theorem aH.set {B:Nat} {l:List Nat} (h:aH B l) {j x:Nat} (hx:x<B):aH B (l.set j x):=by
 intro y hy;rcases Zb hy with h1 | h1
 ·exact h y h1
 ·subst h1;exact hx
theorem wg {B:Nat} (l:List Nat) {i:Nat} (h:i<l.length):val B (l.take (i+1))=val B (l.take i)+B ^ i*l.getD i 0:=by
 rw [W6,val_append,Zh,Yu aa];simp [List.getElem?_eq_getElem h,val]
theorem Q5 {B:Nat} {o:List Nat} {j c a y v:Nat} (hj:j<o.length) :
  val B (o.set j ((c+o.getD j 0+a*y) % B))+B ^ (j+1)*((c+o.getD j 0+a*y) / B+a*v)=val B o+B ^ j*(c+a*(y+B*v)):=by
 have h:=vm (B:=B) o j ((c+o.getD j 0+a*y) % B) hj;generalize val B (o.set j ((c+o.getD j 0+a*y) % B))=p at *;generalize o.getD j 0=w at *;have hd:=Xp (c+w+a*y) B;generalize (c+w+a*y) % B=r at *;generalize (c+w+a*y) / B=d at *;generalize val B o=q at *;generalize hP:B ^ j=P at *;rw [Nat.pow_succ,hP,Nat.mul_assoc]
 have e1:P*(B*(d+a*v))+P*r=P*(c+w+a*y)+P*(a*(B*v)):=by
  rw [<- Zp,<- Zp,<- hd,Zp B,Yz a B v];congr 1;omega
 have e2:P*(c+a*(y+B*v))+P*w=P*(c+w+a*y)+P*(a*(B*v)):=by
  rw [<- Zp,<- Zp,Zp a];congr 1;omega
 omega
end Go.Big
