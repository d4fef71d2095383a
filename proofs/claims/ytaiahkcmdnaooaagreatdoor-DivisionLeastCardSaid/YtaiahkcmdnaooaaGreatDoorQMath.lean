/- Numbers as lists of digits to a base, the lowest one first. No program in sight. -/
import Derived.Test.YtaiahkcmdnaooaaGreatDoorQZ

set_option linter.unusedVariables false
set_option linter.unusedSimpArgs false
namespace Go.Big
def val (B:Nat):List Nat->Nat
 | []=>0
 | x::l=>x+B*val B l
def fD:List Nat->List Nat
 | []=>[]
 | x::l=>match fD l with
  | []=>if x=0 then [] else [x]
  | y::r=>x::y::r
def xn (B:Nat):Nat->Nat->List Nat
 | 0,_=>[]
 | f+1,n=>if n=0 then [] else n % B::xn B f (n / B)
def dig (B n:Nat):List Nat:=xn B n n
def aF (B:Nat) (l:List Nat):Prop:=∀ x∈l,x<B
section
variable {B:Nat}
theorem val_append (a b:List Nat):val B (a++b)=val B a+B ^ a.length*val B b:=by
 induction a with
 | nil=>simp [val]
 | cons x a ih=>simp only [List.cons_append,val,ih,List.length_cons,Nat.pow_succ,Zp];rw [Zw (B ^ a.length) B,Nat.mul_assoc];omega
theorem ij (hB:0<B) {l:List Nat} (h:aF B l):val B l<B ^ l.length:=by
 induction l with
 | nil=>simp [val]
 | cons x l ih=>
  have h1:=ih fun y hy=>h y (by simp [hy])
  have h2:=h x af;simp only [val,List.length_cons,Nat.pow_succ];have:B*(val B l+1)<=B*B ^ l.length:=Z5 B h1;rw [Zw (B ^ l.length) B];rw [Zp] at this;omega
theorem aF.take {l:List Nat} (h:aF B l) (n:Nat):aF B (l.take n):=fun x hx=>h x (List.mem_of_mem_take hx)
theorem aF.drop {l:List Nat} (h:aF B l) (n:Nat):aF B (l.drop n):=fun x hx=>h x (List.mem_of_mem_drop hx)
theorem aF.get {l:List Nat} (h:aF B l) {i:Nat} (hi:i<l.length):l[i]<B:=h _ (Xg hi)
theorem aF.append {a b:List Nat} (ha:aF B a) (hb:aF B b):aF B (a++b):=fun x hx=>by
 rcases X7.1 hx with h | h
 ·exact ha x h
 ·exact hb x h
theorem K8 (l:List Nat):val B (fD l)=val B l:=by
 induction l with
 | nil=>rfl
 | cons x l ih=>
  unfold fD;split
  ·rename_i h;rw [h] at ih;split
   ·rename_i hx;simp [val,<- ih,hx]
   ·simp [val,<- ih]
  ·rename_i y r h;rw [h] at ih;simp only [val] at ih ⊢;rw [ih]
theorem FD {l:List Nat} (h:aF B l):aF B (fD l):=by
 induction l with
 | nil=>exact h
 | cons x l ih=>
  have h1:=ih fun y hy=>h y (by simp [hy])
  have hx:=h x af;unfold fD;split
  ·split
   ·intro y hy;cases hy
   ·intro y hy;simp at hy;omega
  ·rename_i y r he;rw [he] at h1;intro z hz;rcases Zt.1 hz with rfl | hz
   ·exact hx
   ·exact h1 z hz
def wy (l:List Nat):Prop:=∀ h:l≠[],l.getLast h≠0
theorem H6 (l:List Nat):wy (fD l):=by
 induction l with
 | nil=>intro h;exact absurd rfl h
 | cons x l ih=>
  unfold fD;split
  ·split
   ·intro h;exact absurd rfl h
   ·rename_i hx;intro h;simpa using hx
  ·rename_i y r he;rw [he] at ih;intro h;rw [Wm af];exact ih af
theorem BJ {l:List Nat} (h:wy l):fD l=l:=by
 induction l with
 | nil=>rfl
 | cons x l ih=>
  unfold fD;cases l with
  | nil=>
   have:=h af;simp at this;simp [fD,this]
  | cons y r=>
   have:wy (y::r):=fun hh=>by have:=h af;rwa [Wm af] at this
   rw [ih this]
theorem mZ (l:List Nat):fD (l++[0])=fD l:=by
 induction l with
 | nil=>rfl
 | cons x l ih=>simp only [List.cons_append,fD,ih]
theorem tZ {l:List Nat} {x:Nat} (h:x≠0):fD (l++[x])=l++[x]:=BJ fun _=>by simpa using h
theorem yX (hB:2<=B):∀ (f n:Nat),n<=f->val B (xn B f n)=n∧aF B (xn B f n)∧wy (xn B f n)
 | 0,n,h=>by
  have:n=0:=aa;subst this;exact ⟨rfl,fun x hx=>by simp [xn] at hx,fun hx=>absurd rfl hx⟩
 | f+1,n,h=>by
  unfold xn;split
  ·rename_i h0;subst h0;exact ⟨rfl,fun x hx=>by simp at hx,fun hx=>absurd rfl hx⟩
  ·rename_i h0;have hlt:n / B<n:=Nat.div_lt_self aa aa;obtain ⟨h1,h2,h3⟩:=yX hB f (n / B) aa;refine ⟨?_,?_,?_⟩
   ·simp only [val,h1];exact Xj n B
   ·intro x hx;rcases Zt.1 hx with rfl | hx
    ·exact Yt _ aa
    ·exact h2 x hx
   ·intro hne;by_cases hd:xn B f (n / B)=[]
    ·simp only [hd];rw [hd] at h1;simp only [val] at h1
     have:n<B:=by
      rcases Zn n B with h | h
      ·exact h
      ·have:=V5 h (by omega:0<B);omega
     simp only [List.getLast_singleton];rw [Yb this];exact h0
    ·rw [Wm hd];exact h3 hd
theorem fT (hB:2<=B) (n:Nat):val B (dig B n)=n:=(yX hB n n (Z6 n)).1
theorem bS (hB:2<=B) (n:Nat):aF B (dig B n):=(yX hB n n (Z6 n)).2.1
theorem A7 (hB:2<=B) (n:Nat):wy (dig B n):=(yX hB n n (Z6 n)).2.2
theorem sk {l:List Nat} (h:wy l) (hl:l≠[]) (hB:0<B):val B l≠0:=by
 induction l with
 | nil=>exact absurd rfl hl
 | cons x l ih=>
  cases l with
  | nil=>have:=h af;simp at this;simpa [val] using this
  | cons y r=>
   have hn:wy (y::r):=fun hh=>by have:=h af;rwa [Wm af] at this
   have:=ih hn af;simp only [val] at this ⊢;have:=Yp hB (Nat.pos_of_ne_zero this);omega
theorem GD (hB:0<B):∀ {a b:List Nat},aF B a->aF B b->wy a->wy b->val B a=val B b->a=b
 | [],[],_,_,_,_,_=>rfl
 | [],y::b,_,_,_,hb,h=>absurd h.symm (sk hb af hB)
 | x::a,[],_,_,ha,_,h=>absurd h (sk ha af hB)
 | x::a,y::b,sa,sb,na,nb,h=>by
  have hx:=sa x af;have hy:=sb y af;simp only [val] at h
  have e1:x=y:=by
   have:=congrArg (· % B) h;simpa [Xs,Yb hx,Yb hy] using this
  subst e1;have e2:val B a=val B b:=Xt hB aa;have tl:∀ {l:List Nat} {x:Nat},wy (x::l)->wy l:=fun {l x} h hl=>by have:=h af;rwa [Wm hl] at this
  rw [GD hB (fun z hz=>sa z (by simp [hz])) (fun z hz=>sb z (by simp [hz])) (tl na) (tl nb) e2]
theorem nO (hB:2<=B) {l:List Nat} (h:aF B l):dig B (val B l)=fD l:=
 GD aa (bS hB _) (FD h) (A7 hB _) (H6 l) (by rw [fT hB,K8])
theorem me (hB:2<=B) {n k:Nat}:(dig B n).length<=k↔n<B ^ k:=by
 have hv:=fT hB n;have hs:=ij aa (bS hB n);rw [hv] at hs;constructor
 ·intro h;exact Z0 hs (Z1 aa h)
 ·intro h;rcases Zn k (dig B n).length with hk | hk
  ·exfalso;have hne:dig B n≠[]:=by intro e;rw [e] at hk;simp at hk
   have hdrop:val B ((dig B n).drop k)≠0:=by
    refine sk ?_ (by intro e;rw [List.drop_eq_nil_iff] at e;omega) aa;intro hd;rw [List.getLast_drop];exact A7 hB n hne
   have:=val_append (B:=B) ((dig B n).take k) ((dig B n).drop k);rw [Xr,hv,Zq,Y8 aa] at this;have:=Z5 (B ^ k) (Nat.pos_of_ne_zero hdrop);omega
  ·exact hk
def Gx (a b:List Nat):Nat->Int
 | 0=>0
 | i+1=>if a.getD i 0<b.getD i 0 then -1 else if b.getD i 0<a.getD i 0 then 1 else Gx a b i
def cmp (a b:Nat):Int:=if a<b then -1 else if b<a then 1 else 0
theorem J7 (hB:0<B) {a b:List Nat} (ha:aF B a) (hb:aF B b):∀ i,i<=a.length->i<=b.length->Gx a b i=cmp (val B (a.take i)) (val B (b.take i))
 | 0,_,_=>by simp [Gx,cmp,val]
 | i+1,h1,h2=>by
  have e:∀ (l:List Nat) (h:i<l.length),val B (l.take (i+1))=val B (l.take i)+B ^ i*l[i]:=fun l h=>by
   rw [Wn,val_append,Zq,Y8 aa];simp [List.getElem?_eq_getElem h,val]
  have la:=ij hB (ha.take i);have lb:=ij hB (hb.take i);rw [Zq,Y8 aa] at la lb;rw [Gx,e a aa,e b aa,J7 hB ha hb i aa aa];have ga:a.getD i 0=a[i]:=by simp [show i<a.length by omega]
  have gb:b.getD i 0=b[i]:=by simp [show i<b.length by omega]
  rw [ga,gb];generalize a[i]=x,b[i]=y at *;unfold cmp;rcases Nat.lt_trichotomy x y with h | h | h
  ·rw [if_pos h];have:B ^ i*(x+1)<=B ^ i*y:=Z5 _ h;rw [Zp] at this;rw [if_pos aa]
  ·subst h;simp only [Nat.lt_irrefl,if_false,Nat.add_lt_add_iff_right]
  ·rw [if_neg aa,if_pos h];have:B ^ i*(y+1)<=B ^ i*x:=Z5 _ h;rw [Zp] at this;rw [if_neg aa,if_pos aa]
theorem EM (hB:2<=B) {m n:Nat} (h:(dig B m).length<(dig B n).length):m<n:=by
 have h1:m<B ^ (dig B m).length:=(me hB).1 (Z6 _);rcases Zn n (B ^ (dig B m).length) with h2 | h2
 ·have:=(me hB).2 h2;omega
 ·omega
theorem mR (l:List Nat) (i:Nat):val B (l.drop i)=l.getD i 0+B*val B (l.drop (i+1)):=by
 by_cases h:i<l.length
 ·rw [Ys h];simp [val,h]
 ·rw [Y7 aa,Y7 aa];simp [val,List.getElem?_eq_none (by omega:l.length<=i)]
theorem aF.getD {l:List Nat} (h:aF B l) (hB:0<B) (i:Nat):l.getD i 0<B:=by
 by_cases hi:i<l.length
 ·simp [hi];exact h.get hi
 ·simp [List.getElem?_eq_none (by omega:l.length<=i),hB]
theorem Fx (l:List Nat) (x:Nat):val B (l++[x])=val B l+B ^ l.length*x:=by simp [val_append,val]
theorem lH (n:Nat):val B (List.replicate n 0)=0:=by
 induction n with
 | zero=>rfl
 | succ n ih=>simp [List.replicate_succ,val,ih]
theorem aF.snoc {l:List Nat} (h:aF B l) {x:Nat} (hx:x<B):aF B (l++[x]):=h.append fun y hy=>by simp at hy;omega
end
end Go.Big
namespace Go.Big
theorem Hr {a b n:Nat} (hb:0<b) (h:b*2 ^ n<=a):a / b=2 ^ n+(a-b*2 ^ n) / b∧a % b=(a-b*2 ^ n) % b:=by
 obtain ⟨c,rfl⟩:∃ c,a=c+b*2 ^ n:=⟨a-b*2 ^ n,aa⟩;rw [Xf,Yk _ _ hb,Xs];exact ⟨aa,rfl⟩
def Es (w:Nat):Nat->Nat->Nat->Nat->Option Nat
 | 0,_,_,out=>some out
 | n+1,low,high,out=>
  if 2 ^ (w+1)<=low*low / 2 ^ w then Es w n (low*low / 2 ^ w / 2) (((if high*high / 2 ^ w*2 ^ w=high*high then high*high / 2 ^ w else high*high / 2 ^ w+1)+1) / 2) (out*2+1)
  else if 2 ^ (w+1)<=(if high*high / 2 ^ w*2 ^ w=high*high then high*high / 2 ^ w else high*high / 2 ^ w+1) then none
  else Es w n (low*low / 2 ^ w) (if high*high / 2 ^ w*2 ^ w=high*high then high*high / 2 ^ w else high*high / 2 ^ w+1) (out*2)
theorem sV {B:Nat}:∀ (l:List Nat) (j x:Nat),j<l.length->val B (l.set j x)+B ^ j*l.getD j 0=val B l+B ^ j*x
 | [],j,x,h=>by simp at h
 | y::l,0,x,h=>by simp [val];omega
 | y::l,j+1,x,h=>by
  have:=sV (B:=B) l j x (by simpa using h);simp only [List.set_cons_succ,val,List.getD_cons_succ,Nat.pow_succ];rw [Zw (B ^ j) B,Nat.mul_assoc,Nat.mul_assoc];generalize val B (l.set j x)=p at *;generalize B ^ j*l.getD j 0=q at *;generalize B ^ j*x=r at *;have h2:B*(p+q)=B*(val B l+r):=by rw [this]
  rw [Zp,Zp] at h2;omega
theorem aF.set {B:Nat} {l:List Nat} (h:aF B l) {j x:Nat} (hx:x<B):aF B (l.set j x):=by
 intro y hy;rcases Yj hy with h1 | h1
 ·exact h y h1
 ·subst h1;exact hx
theorem tO {B:Nat} (l:List Nat) {i:Nat} (h:i<l.length):val B (l.take (i+1))=val B (l.take i)+B ^ i*l.getD i 0:=by
 rw [Wn,val_append,Zq,Y8 aa];simp [List.getElem?_eq_getElem h,val]
theorem Oe {B:Nat} {o:List Nat} {j c a y v:Nat} (hj:j<o.length) :
  val B (o.set j ((c+o.getD j 0+a*y) % B))+B ^ (j+1)*((c+o.getD j 0+a*y) / B+a*v)=val B o+B ^ j*(c+a*(y+B*v)):=by
 have h:=sV (B:=B) o j ((c+o.getD j 0+a*y) % B) hj;generalize val B (o.set j ((c+o.getD j 0+a*y) % B))=p at *;generalize o.getD j 0=w at *;have hd:=Xj (c+w+a*y) B;generalize (c+w+a*y) % B=r at *;generalize (c+w+a*y) / B=d at *;generalize val B o=q at *;generalize hP:B ^ j=P at *;rw [Nat.pow_succ,hP,Nat.mul_assoc]
 have e1:P*(B*(d+a*v))+P*r=P*(c+w+a*y)+P*(a*(B*v)):=by
  rw [<- Zp,<- Zp,<- hd,Zp B,Yx a B v];congr 1;omega
 have e2:P*(c+a*(y+B*v))+P*w=P*(c+w+a*y)+P*(a*(B*v)):=by
  rw [<- Zp,<- Zp,Zp a];congr 1;omega
 omega
end Go.Big
