/- Numbers as lists of digits to a base, the lowest one first. No program in sight. -/
import Derived.Test.YtaiahkcmdnaooaaGreatDoorQZ

set_option linter.unusedVariables false
set_option linter.unusedSimpArgs false
namespace Go.Big
def val (B:Nat):List Nat->Nat
 | []=>0
 | x::l=>x+B*val B l
def fR:List Nat->List Nat
 | []=>[]
 | x::l=>match fR l with
  | []=>if x=0 then [] else [x]
  | y::r=>x::y::r
def yg (B:Nat):Nat->Nat->List Nat
 | 0,_=>[]
 | f+1,n=>if n=0 then [] else n % B::yg B f (n / B)
def dig (B n:Nat):List Nat:=yg B n n
def aE (B:Nat) (l:List Nat):Prop:=∀ x∈l,x<B
section
variable {B:Nat}
theorem val_append (a b:List Nat):val B (a++b)=val B a+B ^ a.length*val B b:=by
 induction a with
 | nil=>simp [val]
 | cons x a ih=>simp only [List.cons_append,val,ih,List.length_cons,Nat.pow_succ,Zp];rw [Zy (B ^ a.length) B,Nat.mul_assoc];omega
theorem iw (hB:0<B) {l:List Nat} (h:aE B l):val B l<B ^ l.length:=by
 induction l with
 | nil=>simp [val]
 | cons x l ih=>
  have h1:=ih fun y hy=>h y (by simp [hy])
  have h2:=h x af;simp only [val,List.length_cons,Nat.pow_succ];have:B*(val B l+1)<=B*B ^ l.length:=Z3 B h1;rw [Zy (B ^ l.length) B];rw [Zp] at this;omega
theorem aE.take {l:List Nat} (h:aE B l) (n:Nat):aE B (l.take n):=fun x hx=>h x (List.mem_of_mem_take hx)
theorem aE.drop {l:List Nat} (h:aE B l) (n:Nat):aE B (l.drop n):=fun x hx=>h x (List.mem_of_mem_drop hx)
theorem aE.get {l:List Nat} (h:aE B l) {i:Nat} (hi:i<l.length):l[i]<B:=h _ (Wx hi)
theorem aE.append {a b:List Nat} (ha:aE B a) (hb:aE B b):aE B (a++b):=fun x hx=>by
 rcases W4.1 hx with h | h
 ·exact ha x h
 ·exact hb x h
theorem My (l:List Nat):val B (fR l)=val B l:=by
 induction l with
 | nil=>rfl
 | cons x l ih=>
  unfold fR;split
  ·rename_i h;rw [h] at ih;split
   ·rename_i hx;simp [val,<- ih,hx]
   ·simp [val,<- ih]
  ·rename_i y r h;rw [h] at ih;simp only [val] at ih ⊢;rw [ih]
theorem GL {l:List Nat} (h:aE B l):aE B (fR l):=by
 induction l with
 | nil=>exact h
 | cons x l ih=>
  have h1:=ih fun y hy=>h y (by simp [hy])
  have hx:=h x af;unfold fR;split
  ·split
   ·intro y hy;cases hy
   ·intro y hy;simp at hy;omega
  ·rename_i y r he;rw [he] at h1;intro z hz;rcases Zr.1 hz with rfl | hz
   ·exact hx
   ·exact h1 z hz
def xu (l:List Nat):Prop:=∀ h:l≠[],l.getLast h≠0
theorem Jg (l:List Nat):xu (fR l):=by
 induction l with
 | nil=>intro h;exact absurd rfl h
 | cons x l ih=>
  unfold fR;split
  ·split
   ·intro h;exact absurd rfl h
   ·rename_i hx;intro h;simpa using hx
  ·rename_i y r he;rw [he] at ih;intro h;rw [Wn af];exact ih af
theorem CF {l:List Nat} (h:xu l):fR l=l:=by
 induction l with
 | nil=>rfl
 | cons x l ih=>
  unfold fR;cases l with
  | nil=>
   have:=h af;simp at this;simp [fR,this]
  | cons y r=>
   have:xu (y::r):=fun hh=>by have:=h af;rwa [Wn af] at this
   rw [ih this]
theorem oe (l:List Nat):fR (l++[0])=fR l:=by
 induction l with
 | nil=>rfl
 | cons x l ih=>simp only [List.cons_append,fR,ih]
theorem vl {l:List Nat} {x:Nat} (h:x≠0):fR (l++[x])=l++[x]:=CF fun _=>by simpa using h
theorem Af (hB:2<=B):∀ (f n:Nat),n<=f->val B (yg B f n)=n∧aE B (yg B f n)∧xu (yg B f n)
 | 0,n,h=>by
  have:n=0:=aa;subst this;exact ⟨rfl,fun x hx=>by simp [yg] at hx,fun hx=>absurd rfl hx⟩
 | f+1,n,h=>by
  unfold yg;split
  ·rename_i h0;subst h0;exact ⟨rfl,fun x hx=>by simp at hx,fun hx=>absurd rfl hx⟩
  ·rename_i h0;have hlt:n / B<n:=Nat.div_lt_self aa aa;obtain ⟨h1,h2,h3⟩:=Af hB f (n / B) aa;refine ⟨?_,?_,?_⟩
   ·simp only [val,h1];exact Xh n B
   ·intro x hx;rcases Zr.1 hx with rfl | hx
    ·exact Yw _ aa
    ·exact h2 x hx
   ·intro hne;by_cases hd:yg B f (n / B)=[]
    ·simp only [hd];rw [hd] at h1;simp only [val] at h1
     have:n<B:=by
      rcases Zk n B with h | h
      ·exact h
      ·have:=V9 h (by omega:0<B);omega
     simp only [List.getLast_singleton];rw [Yb this];exact h0
    ·rw [Wn hd];exact h3 hd
theorem gz (hB:2<=B) (n:Nat):val B (dig B n)=n:=(Af hB n n (Z7 n)).1
theorem bX (hB:2<=B) (n:Nat):aE B (dig B n):=(Af hB n n (Z7 n)).2.1
theorem B3 (hB:2<=B) (n:Nat):xu (dig B n):=(Af hB n n (Z7 n)).2.2
theorem tU {l:List Nat} (h:xu l) (hl:l≠[]) (hB:0<B):val B l≠0:=by
 induction l with
 | nil=>exact absurd rfl hl
 | cons x l ih=>
  cases l with
  | nil=>have:=h af;simp at this;simpa [val] using this
  | cons y r=>
   have hn:xu (y::r):=fun hh=>by have:=h af;rwa [Wn af] at this
   have:=ih hn af;simp only [val] at this ⊢;have:=Yr hB (Wv this);omega
theorem HR (hB:0<B):∀ {a b:List Nat},aE B a->aE B b->xu a->xu b->val B a=val B b->a=b
 | [],[],_,_,_,_,_=>rfl
 | [],y::b,_,_,_,hb,h=>absurd h.symm (tU hb af hB)
 | x::a,[],_,_,ha,_,h=>absurd h (tU ha af hB)
 | x::a,y::b,sa,sb,na,nb,h=>by
  have hx:=sa x af;have hy:=sb y af;simp only [val] at h
  have e1:x=y:=by
   have:=congrArg (· % B) h;simpa [Xt,Yb hx,Yb hy] using this
  subst e1;have e2:val B a=val B b:=Xu hB aa;have tl:∀ {l:List Nat} {x:Nat},xu (x::l)->xu l:=fun {l x} h hl=>by have:=h af;rwa [Wn hl] at this
  rw [HR hB (fun z hz=>sa z (by simp [hz])) (fun z hz=>sb z (by simp [hz])) (tl na) (tl nb) e2]
theorem oV (hB:2<=B) {l:List Nat} (h:aE B l):dig B (val B l)=fR l:=
 HR aa (bX hB _) (GL h) (B3 hB _) (Jg l) (by rw [gz hB,My])
theorem mU (hB:2<=B) {n k:Nat}:(dig B n).length<=k↔n<B ^ k:=by
 have hv:=gz hB n;have hs:=iw aa (bX hB n);rw [hv] at hs;constructor
 ·intro h;exact Z0 hs (Z2 aa h)
 ·intro h;rcases Zk k (dig B n).length with hk | hk
  ·exfalso;have hne:dig B n≠[]:=by intro e;rw [e] at hk;simp at hk
   have hdrop:val B ((dig B n).drop k)≠0:=by
    refine tU ?_ (by intro e;rw [List.drop_eq_nil_iff] at e;omega) aa;intro hd;rw [List.getLast_drop];exact B3 hB n hne
   have:=val_append (B:=B) ((dig B n).take k) ((dig B n).drop k);rw [Xs,hv,Zi,Yt aa] at this;have:=Z3 (B ^ k) (Wv hdrop);omega
  ·exact hk
def HG (a b:List Nat):Nat->Int
 | 0=>0
 | i+1=>if a.getD i 0<b.getD i 0 then -1 else if b.getD i 0<a.getD i 0 then 1 else HG a b i
def cmp (a b:Nat):Int:=if a<b then -1 else if b<a then 1 else 0
theorem Lj (hB:0<B) {a b:List Nat} (ha:aE B a) (hb:aE B b):∀ i,i<=a.length->i<=b.length->HG a b i=cmp (val B (a.take i)) (val B (b.take i))
 | 0,_,_=>by simp [HG,cmp,val]
 | i+1,h1,h2=>by
  have e:∀ (l:List Nat) (h:i<l.length),val B (l.take (i+1))=val B (l.take i)+B ^ i*l[i]:=fun l h=>by
   rw [Wo,val_append,Zi,Yt aa];simp [List.getElem?_eq_getElem h,val]
  have la:=iw hB (ha.take i);have lb:=iw hB (hb.take i);rw [Zi,Yt aa] at la lb;rw [HG,e a aa,e b aa,Lj hB ha hb i aa aa];have ga:a.getD i 0=a[i]:=by simp [show i<a.length by omega]
  have gb:b.getD i 0=b[i]:=by simp [show i<b.length by omega]
  rw [ga,gb];generalize a[i]=x,b[i]=y at *;unfold cmp;rcases Nat.lt_trichotomy x y with h | h | h
  ·rw [if_pos h];have:B ^ i*(x+1)<=B ^ i*y:=Z3 _ h;rw [Zp] at this;rw [if_pos aa]
  ·subst h;simp only [Nat.lt_irrefl,if_false,Nat.add_lt_add_iff_right]
  ·rw [if_neg aa,if_pos h];have:B ^ i*(y+1)<=B ^ i*x:=Z3 _ h;rw [Zp] at this;rw [if_neg aa,if_pos aa]
theorem F5 (hB:2<=B) {m n:Nat} (h:(dig B m).length<(dig B n).length):m<n:=by
 have h1:m<B ^ (dig B m).length:=(mU hB).1 (Z7 _);rcases Zk n (B ^ (dig B m).length) with h2 | h2
 ·have:=(mU hB).2 h2;omega
 ·omega
theorem nR (l:List Nat) (i:Nat):val B (l.drop i)=l.getD i 0+B*val B (l.drop (i+1)):=by
 by_cases h:i<l.length
 ·rw [Yv h];simp [val,h]
 ·rw [Y6 aa,Y6 aa];simp [val,List.getElem?_eq_none (by omega:l.length<=i)]
theorem aE.getD {l:List Nat} (h:aE B l) (hB:0<B) (i:Nat):l.getD i 0<B:=by
 by_cases hi:i<l.length
 ·simp [hi];exact h.get hi
 ·simp [List.getElem?_eq_none (by omega:l.length<=i),hB]
theorem GE (l:List Nat) (x:Nat):val B (l++[x])=val B l+B ^ l.length*x:=by simp [val_append,val]
theorem mt (n:Nat):val B (List.replicate n 0)=0:=by
 induction n with
 | zero=>rfl
 | succ n ih=>simp [List.replicate_succ,val,ih]
theorem aE.snoc {l:List Nat} (h:aE B l) {x:Nat} (hx:x<B):aE B (l++[x]):=h.append fun y hy=>by simp at hy;omega
end
end Go.Big
namespace Go.Big
theorem IG {a b n:Nat} (hb:0<b) (h:b*2 ^ n<=a):a / b=2 ^ n+(a-b*2 ^ n) / b∧a % b=(a-b*2 ^ n) % b:=by
 obtain ⟨c,rfl⟩:∃ c,a=c+b*2 ^ n:=⟨a-b*2 ^ n,aa⟩;rw [Xq,Yl _ _ hb,Xt];exact ⟨aa,rfl⟩
def FC (w:Nat):Nat->Nat->Nat->Nat->Option Nat
 | 0,_,_,out=>some out
 | n+1,low,high,out=>
  if 2 ^ (w+1)<=low*low / 2 ^ w then FC w n (low*low / 2 ^ w / 2) (((if high*high / 2 ^ w*2 ^ w=high*high then high*high / 2 ^ w else high*high / 2 ^ w+1)+1) / 2) (out*2+1)
  else if 2 ^ (w+1)<=(if high*high / 2 ^ w*2 ^ w=high*high then high*high / 2 ^ w else high*high / 2 ^ w+1) then none
  else FC w n (low*low / 2 ^ w) (if high*high / 2 ^ w*2 ^ w=high*high then high*high / 2 ^ w else high*high / 2 ^ w+1) (out*2)
theorem ui {B:Nat}:∀ (l:List Nat) (j x:Nat),j<l.length->val B (l.set j x)+B ^ j*l.getD j 0=val B l+B ^ j*x
 | [],j,x,h=>by simp at h
 | y::l,0,x,h=>by simp [val];omega
 | y::l,j+1,x,h=>by
  have:=ui (B:=B) l j x (by simpa using h);simp only [List.set_cons_succ,val,List.getD_cons_succ,Nat.pow_succ];rw [Zy (B ^ j) B,Nat.mul_assoc,Nat.mul_assoc];generalize val B (l.set j x)=p at *;generalize B ^ j*l.getD j 0=q at *;generalize B ^ j*x=r at *;have h2:B*(p+q)=B*(val B l+r):=by rw [this]
  rw [Zp,Zp] at h2;omega
theorem aE.set {B:Nat} {l:List Nat} (h:aE B l) {j x:Nat} (hx:x<B):aE B (l.set j x):=by
 intro y hy;rcases Yk hy with h1 | h1
 ·exact h y h1
 ·subst h1;exact hx
theorem uZ {B:Nat} (l:List Nat) {i:Nat} (h:i<l.length):val B (l.take (i+1))=val B (l.take i)+B ^ i*l.getD i 0:=by
 rw [Wo,val_append,Zi,Yt aa];simp [List.getElem?_eq_getElem h,val]
theorem PM {B:Nat} {o:List Nat} {j c a y v:Nat} (hj:j<o.length) :
  val B (o.set j ((c+o.getD j 0+a*y) % B))+B ^ (j+1)*((c+o.getD j 0+a*y) / B+a*v)=val B o+B ^ j*(c+a*(y+B*v)):=by
 have h:=ui (B:=B) o j ((c+o.getD j 0+a*y) % B) hj;generalize val B (o.set j ((c+o.getD j 0+a*y) % B))=p at *;generalize o.getD j 0=w at *;have hd:=Xh (c+w+a*y) B;generalize (c+w+a*y) % B=r at *;generalize (c+w+a*y) / B=d at *;generalize val B o=q at *;generalize hP:B ^ j=P at *;rw [Nat.pow_succ,hP,Nat.mul_assoc]
 have e1:P*(B*(d+a*v))+P*r=P*(c+w+a*y)+P*(a*(B*v)):=by
  rw [<- Zp,<- Zp,<- hd,Zp B,Yy a B v];congr 1;omega
 have e2:P*(c+a*(y+B*v))+P*w=P*(c+w+a*y)+P*(a*(B*v)):=by
  rw [<- Zp,<- Zp,Zp a];congr 1;omega
 omega
end Go.Big
