/- Numbers as lists of digits to a base, the lowest one first. No program in sight. -/

set_option linter.unusedVariables false
set_option linter.unusedSimpArgs false
namespace Go.Big
def val (B:Nat):List Nat→Nat
 | []=>0
 | x :: l=>x+B * val B l
def trimL:List Nat→List Nat
 | []=>[]
 | x :: l=>match trimL l with
  | []=>if x=0 then [] else [x]
  | y :: r=>x :: y :: r
def digF (B:Nat):Nat→Nat→List Nat
 | 0,_=>[]
 | f+1,n=>if n=0 then [] else n % B :: digF B f (n / B)
def dig (B n:Nat):List Nat:=digF B n n
def Small (B:Nat) (l:List Nat):Prop:=∀ x ∈ l,x < B
section
variable {B:Nat}
theorem val_append (a b:List Nat):val B (a++b)=val B a+B ^ a.length * val B b:=by
 induction a with
 | nil=>simp [val]
 | cons x a ih=>simp only [List.cons_append,val,ih,List.length_cons,Nat.pow_succ,Nat.mul_add]; rw [Nat.mul_comm (B ^ a.length) B,Nat.mul_assoc]; omega
theorem val_lt (hB:0 < B) {l:List Nat} (h:Small B l):val B l < B ^ l.length:=by
 induction l with
 | nil=>simp [val]
 | cons x l ih =>
  have h1:=ih fun y hy=>h y (by simp [hy])
  have h2:=h x (by simp)
  simp only [val,List.length_cons,Nat.pow_succ]
  have:B * (val B l+1)≤B * B ^ l.length:=Nat.mul_le_mul_left B h1
  rw [Nat.mul_comm (B ^ l.length) B]
  rw [Nat.mul_add] at this
  omega
theorem Small.take {l:List Nat} (h:Small B l) (n:Nat):Small B (l.take n):=fun x hx=>h x (List.mem_of_mem_take hx)
theorem Small.drop {l:List Nat} (h:Small B l) (n:Nat):Small B (l.drop n):=fun x hx=>h x (List.mem_of_mem_drop hx)
theorem Small.get {l:List Nat} (h:Small B l) {i:Nat} (hi:i < l.length):l[i] < B:=h _ (List.getElem_mem hi)
theorem Small.append {a b:List Nat} (ha:Small B a) (hb:Small B b):Small B (a++b):=fun x hx=>by
 rcases List.mem_append.1 hx with h | h
 ·exact ha x h
 ·exact hb x h
theorem trimL_val (l:List Nat):val B (trimL l)=val B l:=by
 induction l with
 | nil=>rfl
 | cons x l ih =>
  unfold trimL
  split
  ·rename_i h
   rw [h] at ih
   split
   ·rename_i hx; simp [val,← ih,hx]
   ·simp [val,← ih]
  ·rename_i y r h
   rw [h] at ih
   simp only [val] at ih ⊢
   rw [ih]
theorem trimL_small {l:List Nat} (h:Small B l):Small B (trimL l):=by
 induction l with
 | nil=>exact h
 | cons x l ih =>
  have h1:=ih fun y hy=>h y (by simp [hy])
  have hx:=h x (by simp)
  unfold trimL
  split
  ·split
   ·intro y hy; cases hy
   ·intro y hy; simp at hy; omega
  ·rename_i y r he
   rw [he] at h1
   intro z hz
   rcases List.mem_cons.1 hz with rfl | hz
   ·exact hx
   ·exact h1 z hz
def Norm (l:List Nat):Prop:=∀ h:l≠[],l.getLast h≠0
theorem trimL_norm (l:List Nat):Norm (trimL l):=by
 induction l with
 | nil=>intro h; exact absurd rfl h
 | cons x l ih =>
  unfold trimL
  split
  ·split
   ·intro h; exact absurd rfl h
   ·rename_i hx; intro h; simpa using hx
  ·rename_i y r he
   rw [he] at ih
   intro h
   rw [List.getLast_cons (by simp)]
   exact ih (by simp)
theorem trimL_of_norm {l:List Nat} (h:Norm l):trimL l=l:=by
 induction l with
 | nil=>rfl
 | cons x l ih =>
  unfold trimL
  cases l with
  | nil =>
   have:=h (by simp)
   simp at this
   simp [trimL,this]
  | cons y r =>
   have:Norm (y :: r):=fun hh=>by have:=h (by simp); rwa [List.getLast_cons (by simp)] at this
   rw [ih this]
theorem trimL_snoc_zero (l:List Nat):trimL (l++[0])=trimL l:=by
 induction l with
 | nil=>rfl
 | cons x l ih=>simp only [List.cons_append,trimL,ih]
theorem trimL_snoc {l:List Nat} {x:Nat} (h:x≠0):trimL (l++[x])=l++[x]:=trimL_of_norm fun _=>by simpa using h
theorem digF_eq (hB:2≤B):∀ (f n:Nat),n≤f→val B (digF B f n)=n∧Small B (digF B f n)∧Norm (digF B f n)
 | 0,n,h=>by
  have:n=0:=by omega
  subst this
  exact ⟨rfl,fun x hx=>by simp [digF] at hx,fun hx=>absurd rfl hx⟩
 | f+1,n,h=>by
  unfold digF
  split
  ·rename_i h0
   subst h0
   exact ⟨rfl,fun x hx=>by simp at hx,fun hx=>absurd rfl hx⟩
  ·rename_i h0
   have hlt:n / B < n:=Nat.div_lt_self (by omega) (by omega)
   obtain ⟨h1,h2,h3⟩:=digF_eq hB f (n / B) (by omega)
   refine ⟨?_,?_,?_⟩
   ·simp only [val,h1]; exact Nat.mod_add_div n B
   ·intro x hx
    rcases List.mem_cons.1 hx with rfl | hx
    ·exact Nat.mod_lt _ (by omega)
    ·exact h2 x hx
   ·intro hne
    by_cases hd:digF B f (n / B)=[]
    ·simp only [hd]
     rw [hd] at h1
     simp only [val] at h1
     have:n < B:=by
      rcases Nat.lt_or_ge n B with h | h
      ·exact h
      ·have:=Nat.div_pos h (by omega:0 < B); omega
     simp only [List.getLast_singleton]
     rw [Nat.mod_eq_of_lt this]; exact h0
    ·rw [List.getLast_cons hd]; exact h3 hd
theorem val_dig (hB:2≤B) (n:Nat):val B (dig B n)=n:=(digF_eq hB n n (Nat.le_refl n)).1
theorem dig_small (hB:2≤B) (n:Nat):Small B (dig B n):=(digF_eq hB n n (Nat.le_refl n)).2.1
theorem dig_norm (hB:2≤B) (n:Nat):Norm (dig B n):=(digF_eq hB n n (Nat.le_refl n)).2.2
theorem norm_val_ne {l:List Nat} (h:Norm l) (hl:l≠[]) (hB:0 < B):val B l≠0:=by
 induction l with
 | nil=>exact absurd rfl hl
 | cons x l ih =>
  cases l with
  | nil=>have:=h (by simp); simp at this; simpa [val] using this
  | cons y r =>
   have hn:Norm (y :: r):=fun hh=>by have:=h (by simp); rwa [List.getLast_cons (by simp)] at this
   have:=ih hn (by simp)
   simp only [val] at this ⊢
   have:=Nat.mul_pos hB (Nat.pos_of_ne_zero this)
   omega
theorem norm_inj (hB:0 < B):∀ {a b:List Nat},Small B a→Small B b→Norm a→Norm b→val B a=val B b→a=b
 | [],[],_,_,_,_,_=>rfl
 | [],y :: b,_,_,_,hb,h=>absurd h.symm (norm_val_ne hb (by simp) hB)
 | x :: a,[],_,_,ha,_,h=>absurd h (norm_val_ne ha (by simp) hB)
 | x :: a,y :: b,sa,sb,na,nb,h=>by
  have hx:=sa x (by simp)
  have hy:=sb y (by simp)
  simp only [val] at h
  have e1:x=y:=by
   have:=congrArg (· % B) h
   simpa [Nat.add_mul_mod_self_left,Nat.mod_eq_of_lt hx,Nat.mod_eq_of_lt hy] using this
  subst e1
  have e2:val B a=val B b:=Nat.eq_of_mul_eq_mul_left hB (by omega)
  have tl:∀ {l:List Nat} {x:Nat},Norm (x :: l)→Norm l:=fun {l x} h hl=>by have:=h (by simp); rwa [List.getLast_cons hl] at this
  rw [norm_inj hB (fun z hz=>sa z (by simp [hz])) (fun z hz=>sb z (by simp [hz])) (tl na) (tl nb) e2]
theorem dig_val (hB:2≤B) {l:List Nat} (h:Small B l):dig B (val B l)=trimL l :=
 norm_inj (by omega) (dig_small hB _) (trimL_small h) (dig_norm hB _) (trimL_norm l) (by rw [val_dig hB,trimL_val])
theorem dig_zero:dig B 0=[]:=rfl
theorem dig_eq_nil (hB:2≤B) {n:Nat}:dig B n=[]↔n=0:=by
 constructor
 ·intro h; have:=val_dig hB n; rw [h] at this; exact this.symm
 ·rintro rfl; rfl
theorem dig_len (hB:2≤B) {n k:Nat}:(dig B n).length≤k↔n < B ^ k:=by
 have hv:=val_dig hB n
 have hs:=val_lt (by omega) (dig_small hB n)
 rw [hv] at hs
 constructor
 ·intro h
  exact Nat.lt_of_lt_of_le hs (Nat.pow_le_pow_right (by omega) h)
 ·intro h
  rcases Nat.lt_or_ge k (dig B n).length with hk | hk
  ·exfalso
   have hne:dig B n≠[]:=by intro e; rw [e] at hk; simp at hk
   have hdrop:val B ((dig B n).drop k)≠0:=by
    refine norm_val_ne ?_ (by intro e; rw [List.drop_eq_nil_iff] at e; omega) (by omega)
    intro hd
    rw [List.getLast_drop]
    exact dig_norm hB n hne
   have:=val_append (B:=B) ((dig B n).take k) ((dig B n).drop k)
   rw [List.take_append_drop,hv,List.length_take,Nat.min_eq_left (by omega)] at this
   have:=Nat.mul_le_mul_left (B ^ k) (Nat.pos_of_ne_zero hdrop)
   omega
  ·exact hk
def ordL (a b:List Nat):Nat→Int
 | 0=>0
 | i+1=>if a.getD i 0 < b.getD i 0 then -1 else if b.getD i 0 < a.getD i 0 then 1 else ordL a b i
def cmp (a b:Nat):Int:=if a < b then -1 else if b < a then 1 else 0
theorem ordL_eq (hB:0 < B) {a b:List Nat} (ha:Small B a) (hb:Small B b):∀ i,i≤a.length→i≤b.length→ordL a b i=cmp (val B (a.take i)) (val B (b.take i))
 | 0,_,_=>by simp [ordL,cmp,val]
 | i+1,h1,h2=>by
  have e:∀ (l:List Nat) (h:i < l.length),val B (l.take (i+1))=val B (l.take i)+B ^ i * l[i]:=fun l h=>by
   rw [List.take_add_one,val_append,List.length_take,Nat.min_eq_left (by omega)]
   simp [List.getElem?_eq_getElem h,val]
  have la:=val_lt hB (ha.take i)
  have lb:=val_lt hB (hb.take i)
  rw [List.length_take,Nat.min_eq_left (by omega)] at la lb
  rw [ordL,e a (by omega),e b (by omega),ordL_eq hB ha hb i (by omega) (by omega)]
  have ga:a.getD i 0=a[i]:=by simp [show i < a.length by omega]
  have gb:b.getD i 0=b[i]:=by simp [show i < b.length by omega]
  rw [ga,gb]
  generalize a[i]=x,b[i]=y at *
  unfold cmp
  rcases Nat.lt_trichotomy x y with h | h | h
  ·rw [if_pos h]
   have:B ^ i * (x+1)≤B ^ i * y:=Nat.mul_le_mul_left _ h
   rw [Nat.mul_add] at this
   rw [if_pos (by omega)]
  ·subst h
   simp only [Nat.lt_irrefl,if_false,Nat.add_lt_add_iff_right]
  ·rw [if_neg (by omega),if_pos h]
   have:B ^ i * (y+1)≤B ^ i * x:=Nat.mul_le_mul_left _ h
   rw [Nat.mul_add] at this
   rw [if_neg (by omega),if_pos (by omega)]
theorem cmp_len (hB:2≤B) {m n:Nat} (h:(dig B m).length < (dig B n).length):m < n:=by
 have h1:m < B ^ (dig B m).length:=(dig_len hB).1 (Nat.le_refl _)
 rcases Nat.lt_or_ge n (B ^ (dig B m).length) with h2 | h2
 ·have:=(dig_len hB).2 h2; omega
 ·omega
theorem val_drop (l:List Nat) (i:Nat):val B (l.drop i)=l.getD i 0+B * val B (l.drop (i+1)):=by
 by_cases h:i < l.length
 ·rw [List.drop_eq_getElem_cons h]
  simp [val,h]
 ·rw [List.drop_eq_nil_of_le (by omega),List.drop_eq_nil_of_le (by omega)]
  simp [val,List.getElem?_eq_none (by omega:l.length≤i)]
theorem Small.getD {l:List Nat} (h:Small B l) (hB:0 < B) (i:Nat):l.getD i 0 < B:=by
 by_cases hi:i < l.length
 ·simp [hi]; exact h.get hi
 ·simp [List.getElem?_eq_none (by omega:l.length≤i),hB]
theorem val_snoc (l:List Nat) (x:Nat):val B (l++[x])=val B l+B ^ l.length * x:=by simp [val_append,val]
theorem val_zeros (n:Nat):val B (List.replicate n 0)=0:=by
 induction n with
 | zero=>rfl
 | succ n ih=>simp [List.replicate_succ,val,ih]
theorem Small.snoc {l:List Nat} (h:Small B l) {x:Nat} (hx:x < B):Small B (l++[x]):=h.append fun y hy=>by simp at hy; omega
theorem set_front {d:List Nat} {r x:Nat}:(d++List.replicate (r+1) 0).set d.length x=(d++[x])++List.replicate r 0:=by
 rw [List.set_append_right _ _ (Nat.le_refl _)]
 simp [List.replicate_succ]
end
end Go.Big
namespace Go.Big
def bln (n:Nat):Nat:=if n=0 then 0 else n.log2+1
theorem bln_zero:bln 0=0:=rfl
theorem bln_lt (n:Nat):n < 2 ^ bln n:=by
 unfold bln
 split
 ·omega
 ·exact Nat.lt_log2_self
theorem bln_le {n:Nat} (h:n≠0):2 ^ (bln n - 1)≤n:=by
 unfold bln
 rw [if_neg h]
 exact Nat.log2_self_le h
theorem bln_pos {n:Nat} (h:n≠0):0 < bln n:=by unfold bln; rw [if_neg h]; omega
theorem bln_eq {n k:Nat} (h1:2 ^ k≤n) (h2:n < 2 ^ (k+1)):bln n=k+1:=by
 have h0:n≠0:=by have:=Nat.two_pow_pos k; omega
 unfold bln
 rw [if_neg h0]
 have:=(Nat.log2_eq_iff h0).2 ⟨h1,h2⟩
 omega
theorem bln_half {n:Nat} (h:0 < n):bln n=bln (n / 2)+1:=by
 by_cases h2:n / 2=0
 ·have:n=1:=by omega
  subst this
  decide
 ·have l1:=bln_lt (n / 2)
  have l2:=bln_le h2
  have l3:=bln_pos h2
  obtain ⟨k,hk⟩:∃ k,bln (n / 2)=k+1:=⟨bln (n / 2) - 1,by omega⟩
  rw [hk] at l1 l2 ⊢
  simp only [Nat.add_sub_cancel] at l2
  refine bln_eq ?_ ?_
  ·rw [Nat.pow_succ]; omega
  ·rw [Nat.pow_succ]; omega
theorem bln_le_of {n k:Nat} (h:n < 2 ^ k):bln n≤k:=by
 by_cases h0:n=0
 ·subst h0; simp [bln_zero]
 ·have:=bln_le h0
  rcases Nat.lt_or_ge k (bln n) with h1 | h1
  ·have h3:2 ^ k≤2 ^ (bln n - 1):=Nat.pow_le_pow_right (by decide) (by omega)
   omega
  ·exact h1
theorem bln_snoc {p:List Nat} {x:Nat} (hp:Small 4294967296 p) (hx:x≠0):bln (val 4294967296 (p++[x]))=32 * p.length+bln x:=by
 have hv:=val_lt (B:=4294967296) (by decide) hp
 have hW:(4294967296:Nat) ^ p.length=2 ^ (32 * p.length):=by rw [Nat.pow_mul]
 have l1:=bln_lt x
 have l2:=bln_le hx
 have l3:=bln_pos hx
 obtain ⟨k,hk⟩:∃ k,bln x=k+1:=⟨bln x - 1,by omega⟩
 rw [hk] at l1 l2 ⊢
 simp only [Nat.add_sub_cancel] at l2
 rw [val_append]
 simp only [val,Nat.mul_zero,Nat.add_zero]
 rw [hW] at hv ⊢
 rw [← Nat.add_assoc]
 refine bln_eq ?_ ?_
 ·rw [Nat.pow_add]
  have:=Nat.mul_le_mul_left (2 ^ (32 * p.length)) l2
  omega
 ·rw [Nat.add_assoc,Nat.pow_add]
  have:=Nat.mul_le_mul_left (2 ^ (32 * p.length)) l1
  rw [Nat.mul_succ] at this
  omega
def shrL (r:Nat):List Nat→List Nat
 | []=>[]
 | x :: l=>(x / 2 ^ r+(2 ^ (32 - r) * l.headD 0) % 4294967296) :: shrL r l
theorem shrL_len (r:Nat):∀ l,(shrL r l).length=l.length
 | []=>rfl
 | x :: l=>by simp [shrL,shrL_len r l]
theorem split32 {r:Nat} (hr:r≤32):2 ^ r * 2 ^ (32 - r)=4294967296:=by
 rw [← Nat.pow_add,show r+(32 - r)=32 by omega]
theorem shr_sum {r x y:Nat} (hr:r≤32) (hx:x < 4294967296):x / 2 ^ r+(2 ^ (32 - r) * y) % 4294967296 < 4294967296:=by
 have hs:=split32 hr
 have hp:=Nat.two_pow_pos r
 have hq:=Nat.two_pow_pos (32 - r)
 generalize 2 ^ r=a at *
 generalize 2 ^ (32 - r)=b at *
 have h1:x / a < b:=Nat.div_lt_of_lt_mul (by rw [hs]; exact hx)
 rw [← hs,Nat.mul_comm a b,Nat.mul_mod_mul_left]
 have h2:y % a < a:=Nat.mod_lt _ hp
 have h3:b * (y % a+1)≤b * a:=Nat.mul_le_mul_left b h2
 rw [Nat.mul_add] at h3
 omega
theorem shrL_small {r:Nat} (hr:r≤32):∀ {l:List Nat},Small 4294967296 l→Small 4294967296 (shrL r l)
 | [],_=>fun x hx=>by simp [shrL] at hx
 | x :: l,h=>by
  intro y hy
  simp only [shrL,List.mem_cons] at hy
  rcases hy with rfl | hy
  ·exact shr_sum hr (h x (by simp))
  ·exact shrL_small hr (fun z hz=>h z (by simp [hz])) y hy
theorem shrL_val {r:Nat} (hr:r≤32):∀ (l:List Nat),val 4294967296 (shrL r l)=val 4294967296 l / 2 ^ r
 | []=>by simp [shrL,val]
 | x :: l=>by
  have hs:=split32 hr
  have hp:=Nat.two_pow_pos r
  have hq:=Nat.two_pow_pos (32 - r)
  have ih:=shrL_val hr l
  simp only [shrL,val,ih]
  have hh:(2 ^ (32 - r) * l.headD 0) % 4294967296=(2 ^ (32 - r) * val 4294967296 l) % 4294967296:=by
   cases l with
   | nil=>simp [val]
   | cons y l =>
    simp only [List.headD_cons,val]
    rw [Nat.mul_add,← Nat.mul_assoc (2 ^ (32 - r)) 4294967296,Nat.mul_comm (2 ^ (32 - r)) 4294967296,Nat.mul_assoc 4294967296,Nat.add_mul_mod_self_left]
  rw [hh]
  generalize val 4294967296 l=v at *
  generalize 2 ^ r=a at *
  generalize 2 ^ (32 - r)=b at *
  rw [← hs,Nat.mul_assoc a b v,Nat.add_mul_div_left _ _ hp]
  have e1:v / a=b * v / (a * b):=by rw [Nat.mul_comm a b,Nat.mul_div_mul_left _ _ hq]
  rw [e1]
  have:=Nat.mod_add_div (b * v) (a * b)
  omega
theorem div_step {a b n:Nat} (hb:0 < b) (h:b * 2 ^ n≤a):a / b=2 ^ n+(a - b * 2 ^ n) / b∧a % b=(a - b * 2 ^ n) % b:=by
 obtain ⟨c,rfl⟩:∃ c,a=c+b * 2 ^ n:=⟨a - b * 2 ^ n,by omega⟩
 rw [Nat.add_sub_cancel,Nat.add_mul_div_left _ _ hb,Nat.add_mul_mod_self_left]
 exact ⟨by omega,rfl⟩
def logF (w:Nat):Nat→Nat→Nat→Nat→Option Nat
 | 0,_,_,out=>some out
 | n+1,low,high,out =>
  if 2 ^ (w+1)≤low * low / 2 ^ w then logF w n (low * low / 2 ^ w / 2) (((if high * high / 2 ^ w * 2 ^ w=high * high then high * high / 2 ^ w else high * high / 2 ^ w+1)+1) / 2) (out * 2+1)
  else if 2 ^ (w+1)≤(if high * high / 2 ^ w * 2 ^ w=high * high then high * high / 2 ^ w else high * high / 2 ^ w+1) then none
  else logF w n (low * low / 2 ^ w) (if high * high / 2 ^ w * 2 ^ w=high * high then high * high / 2 ^ w else high * high / 2 ^ w+1) (out * 2)
def logN (p n w:Nat):Option Nat:=logF w n (p * 2 ^ (w - (bln p - 1))) (p * 2 ^ (w - (bln p - 1))) (bln p - 1)
theorem sq_up {w high:Nat} (h:high≤2 ^ (w+1)):(if high * high / 2 ^ w * 2 ^ w=high * high then high * high / 2 ^ w else high * high / 2 ^ w+1)≤2 ^ (w+2):=by
 have hp:=Nat.two_pow_pos w
 have h2:high * high≤2 ^ (w+1) * 2 ^ (w+1):=Nat.mul_le_mul h h
 have e:2 ^ (w+1) * 2 ^ (w+1)=2 ^ (w+2) * 2 ^ w:=by rw [← Nat.pow_add,← Nat.pow_add]; congr 1; omega
 rw [e] at h2
 generalize high * high=s at *
 have hd:=Nat.div_add_mod s (2 ^ w)
 have hm:=Nat.mod_lt s hp
 split
 ·exact Nat.div_le_of_le_mul (by rw [Nat.mul_comm]; exact h2)
 ·rename_i hne
  have:s / 2 ^ w < 2 ^ (w+2):=by
   rcases Nat.lt_or_ge (s / 2 ^ w) (2 ^ (w+2)) with h3 | h3
   ·exact h3
   ·have h4:=Nat.mul_le_mul_right (2 ^ w) h3
    rw [Nat.mul_comm] at hd
    omega
  omega
theorem sq_lo {w low:Nat} (h:low≤2 ^ (w+1)):low * low / 2 ^ w≤2 ^ (w+2):=by
 have h2:low * low≤2 ^ (w+1) * 2 ^ (w+1):=Nat.mul_le_mul h h
 have e:2 ^ (w+1) * 2 ^ (w+1)=2 ^ w * 2 ^ (w+2):=by rw [← Nat.pow_add,← Nat.pow_add]; congr 1; omega
 rw [e] at h2
 exact Nat.div_le_of_le_mul h2
theorem val_set {B:Nat}:∀ (l:List Nat) (j x:Nat),j < l.length→val B (l.set j x)+B ^ j * l.getD j 0=val B l+B ^ j * x
 | [],j,x,h=>by simp at h
 | y :: l,0,x,h=>by simp [val]; omega
 | y :: l,j+1,x,h=>by
  have:=val_set (B:=B) l j x (by simpa using h)
  simp only [List.set_cons_succ,val,List.getD_cons_succ,Nat.pow_succ]
  rw [Nat.mul_comm (B ^ j) B,Nat.mul_assoc,Nat.mul_assoc]
  generalize val B (l.set j x)=p at *
  generalize B ^ j * l.getD j 0=q at *
  generalize B ^ j * x=r at *
  have h2:B * (p+q)=B * (val B l+r):=by rw [this]
  rw [Nat.mul_add,Nat.mul_add] at h2
  omega
theorem Small.set {B:Nat} {l:List Nat} (h:Small B l) {j x:Nat} (hx:x < B):Small B (l.set j x):=by
 intro y hy
 rcases List.mem_or_eq_of_mem_set hy with h1 | h1
 ·exact h y h1
 ·subst h1; exact hx
theorem val_take_succ {B:Nat} (l:List Nat) {i:Nat} (h:i < l.length):val B (l.take (i+1))=val B (l.take i)+B ^ i * l.getD i 0:=by
 rw [List.take_add_one,val_append,List.length_take,Nat.min_eq_left (by omega)]
 simp [List.getElem?_eq_getElem h,val]
theorem mul_step {B:Nat} {o:List Nat} {j c a y v:Nat} (hj:j < o.length) :
  val B (o.set j ((c+o.getD j 0+a * y) % B))+B ^ (j+1) * ((c+o.getD j 0+a * y) / B+a * v)=val B o+B ^ j * (c+a * (y+B * v)):=by
 have h:=val_set (B:=B) o j ((c+o.getD j 0+a * y) % B) hj
 generalize val B (o.set j ((c+o.getD j 0+a * y) % B))=p at *
 generalize o.getD j 0=w at *
 have hd:=Nat.mod_add_div (c+w+a * y) B
 generalize (c+w+a * y) % B=r at *
 generalize (c+w+a * y) / B=d at *
 generalize val B o=q at *
 generalize hP:B ^ j=P at *
 rw [Nat.pow_succ,hP,Nat.mul_assoc]
 have e1:P * (B * (d+a * v))+P * r=P * (c+w+a * y)+P * (a * (B * v)):=by
  rw [← Nat.mul_add,← Nat.mul_add,← hd,Nat.mul_add B,Nat.mul_left_comm a B v]
  congr 1; omega
 have e2:P * (c+a * (y+B * v))+P * w=P * (c+w+a * y)+P * (a * (B * v)):=by
  rw [← Nat.mul_add,← Nat.mul_add,Nat.mul_add a]
  congr 1; omega
 omega
end Go.Big
