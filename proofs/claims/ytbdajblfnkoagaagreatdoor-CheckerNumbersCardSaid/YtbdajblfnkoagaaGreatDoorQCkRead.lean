/- Texts of the checker: read. -/
import Derived.Test.YtbdajblfnkoagaaGreatDoorQCkShift
import Derived.Test.YtbdajblfnkoagaaGreatDoorQStr
import Derived.Test.YtbdajblfnkoagaaGreatDoorQT
set_option linter.unusedVariables false
set_option linter.unusedSimpArgs false
namespace Go.Vm
open Go Go.Am Go.Big
def rdT (s:List UInt8):List UInt8:=if s.headD 0=45 then s.tail else s
def rdN (s:List UInt8):Bool:=decide (s.headD 0=45)
def rd (s:List UInt8):Option Int:=if (rdT s).length≤400 then rdS s else none
theorem rd_eq (s:List UInt8):rd s=if (rdT s).length≤400∧rdT s≠[]∧¬ ((rdT s).headD 0=48∧(1 < (rdT s).length∨rdN s=true))∧(rdT s).all isDg=true then some (if rdN s=true then -(hornB 0 (rdT s):Int) else (hornB 0 (rdT s):Int)) else none:=by
 unfold rd rdS
 have hcan:∀ t:List UInt8,canT t=true↔t≠[]∧t.all isDg=true∧¬ (1 < t.length∧t.headD 0=48):=fun t=>by
  simp [canT,and_assoc]
  intro _ _
  constructor
  ·rintro (h | h) g
   ·omega
   ·exact h
  ·intro h
   by_cases g:1 < t.length
   ·exact .inr (h g)
   ·exact .inl (by omega)
 by_cases h:s.headD 0=45
 ·have e1:rdT s=s.tail:=by unfold rdT; rw [if_pos h]
  have e2:rdN s=true:=by unfold rdN; simpa using h
  rw [e1,e2,if_pos h]
  generalize s.tail=t
  by_cases h1:t.length≤400
  ·simp only [h1,if_true,true_and,hcan]
   by_cases h2:t≠[]∧¬ (t.headD 0=48∧(1 < t.length∨True))∧t.all isDg=true
   ·rw [if_pos h2,if_pos]
    obtain ⟨a,b,c⟩:=h2
    refine ⟨⟨a,c,fun x=>b ⟨x.2,.inr trivial⟩⟩,fun x=>b ⟨by rw [x]; rfl,.inr trivial⟩⟩
   ·rw [if_neg h2,if_neg]
    rintro ⟨⟨a,b,c⟩,d⟩
    refine h2 ⟨a,fun x=>?_,b⟩
    by_cases g:1 < t.length
    ·exact c ⟨g,x.1⟩
    ·apply d
     cases t with
     | nil=>exact absurd rfl a
     | cons y t =>
      cases t with
      | nil=>have:=x.1; simp at this; rw [this]
      | cons z t=>simp at g
  ·simp [h1]
 ·have e1:rdT s=s:=by unfold rdT; rw [if_neg h]
  have e2:rdN s=false:=by unfold rdN; simpa using h
  rw [e1,e2,if_neg h]
  by_cases h1:s.length≤400
  ·simp only [h1,if_true,true_and,hcan]
   by_cases h2:s≠[]∧s.all isDg=true∧¬ (1 < s.length∧s.headD 0=48)
   ·rw [if_pos h2,if_pos]
    ·simp
    ·exact ⟨h2.1,fun x=>h2.2.2 ⟨by simpa using x.2,x.1⟩,h2.2.1⟩
   ·rw [if_neg h2,if_neg]
    rintro ⟨a,b,c⟩
    exact h2 ⟨a,c,fun x=>b ⟨x.2,.inl x.1⟩⟩
  ·simp [h1]
theorem len_dec {n k:Nat} (h:n < 10 ^ k):len n≤k:=by
 refine len_le (Nat.lt_of_lt_of_le h (Nat.pow_le_pow_left (by decide) k))
theorem nat_ten:nat 10=.d (.sl 1 [.int .u32 10]):=by
 unfold nat lst
 rfl
def rdH (neg:Bool) (x:V):Hp:=[(1,.vars [.d (.bool false),.d (.pl (.slice none 0 0))]),(1,.vars [.d (.bool neg),x])]
@[simp] theorem okV_nat (n:Nat):okV (nat n)=true:=id rfl
theorem isN_ok {v:V} {n:Nat} (h:isN v n):okV v=true:=by rcases h with rfl | ⟨_,rfl⟩ <;> rfl
theorem read_loop (neg:Bool) (k:KL) (h0:Hp) (hh:h0.length=2):∀ (q a:List UInt8) (x:V),(a++q).length≤400→hornB 0 a < 10 ^ a.length→isN x (hornB 0 a) →
  (q.all isDg=true→∀ x',isN x' (hornB 0 (a++q))→k (.exit 0) [] (rdH neg x'))→(q.all isDg=false→∀ x',k .ret [B false] (rdH neg x')) →
  lp (checker_read_l0 (CX Y) (.ptr 0 1 0 2) (S (a++q)) (.ptr 1 1 0 2) (I (a++q).length)) [] h0 [I a.length] (rdH neg x) k
 | []=>by
  intro a x hN ha hx h1 h2
  refine lp_in ?_
  simp (disch:=first|omega|simp<;>omega|fail)[checker_read_l0]
  exact h1 rfl x (by simpa using hx)
 | b :: q=>by
  intro a x hN ha hx h1 h2
  have h40:(2:Nat) ^ 40=1099511627776:=by decide
  have hix:ixS (S (a++b :: q)) (.d (.int .i64 (a.length:Int)))=some (.d (.int .u8 b.toNat)):=ixS_at _ (by omega) (by simp)
  have hb256:=b.toNat_lt
  have hok:=isN_ok hx
  simp at hN
  refine lp_in ?_
  by_cases hd:isDg b=true
  ·have hb:=isDg_iff.1 hd
   obtain ⟨d,hd2⟩:∃ d,b.toNat=48+d:=⟨b.toNat - 48,by omega⟩
   have hdi:(b.toNat:Int) - 48=d:=by omega
   have hla:=len_dec ha
   have hla10:hornB 0 a * 10 < 10 ^ (a.length+1):=by rw [Nat.pow_succ]; omega
   have hlb:=len_dec hla10
   have hl10:=len_le (n:=10) (k:=1) (by decide)
   have hld:=len_le (n:=d) (k:=1) (by simp only [W]; omega)
   have hn1:hornB 0 (a++[b])=hornB 0 a * 10+d:=by rw [hornB_append,hornB_cons,hornB_nil]; omega
   have ih:=read_loop neg k h0 hh q (a++[b]) (nat (hornB 0 a * 10+d)) (by simp; omega) (by rw [hn1,List.length_append,List.length_singleton,Nat.pow_succ]; omega) (by rw [hn1]; exact .inl rfl) (fun g=>by simpa using h1 (by simp [g,hd])) (fun g=>h2 (by simp [g]))
   generalize hornB 0 a=n at *
   have hpr:=product_ok (a:=n) (b:=10) (by omega) (by omega)
   have hof:=of_ok (n:=d) (by omega)
   have hpl:=plus_ok (a:=n * 10) (b:=d) (by omega) (by omega)
   have hli:∀ h,lisR 1 [D.int IntKind.u32 0] [(0,.d (.int .u32 10))] h=some ([.int .u32 10],h):=fun h=>by simp [lisR,repl,toDs,toD]
   clear h1 h2
   simp (disch:=first|omega|simp<;>omega|fail)[checker_read_l0,hix,show ¬ (b.toNat:Int) < 48 by omega,show ¬ (57:Int) < b.toNat by omega,rdH]
   rw [hli]
   simp (disch:=first|omega|simp<;>omega|fail)[]
   rw [← nat_ten]
   refine cdx (ds:=[nat n,nat 10]) (by simp [snaps,isN_snap hx]) hpr ?_
   simp (disch:=first|omega|simp<;>omega|fail)[hix,hdi]
   refine cd hof ?_
   simp (disch:=first|omega|simp<;>omega|fail)[]
   refine cd hpl ?_
   simp (disch:=first|omega|simp<;>omega|fail)[nat_natD,hh]
   simpa [rdH,nat_natD] using ih
  ·have hnd:¬ (48≤b.toNat∧b.toNat≤57):=fun g=>hd (isDg_iff.2 g)
   have:=h2 (by simp [hd]) x
   clear h1 h2
   by_cases g1:b.toNat < 48
   ·simp (disch:=first|omega|simp<;>omega|fail)[checker_read_l0,hix,show (b.toNat:Int) < 48 by omega,rdH]
    simpa [rdH] using this
   ·simp (disch:=first|omega|simp<;>omega|fail)[checker_read_l0,hix,show ¬ (b.toNat:Int) < 48 by omega,show (57:Int) < b.toNat by omega,rdH]
    simpa [rdH] using this
def rdO (T:List UInt8) (neg:Bool):Option Int:=if T.length≤400∧T≠[]∧¬ (T.headD 0=48∧(1 < T.length∨neg=true))∧T.all isDg=true then some (if neg=true then -(hornB 0 T:Int) else (hornB 0 T:Int)) else none
def rdV (o:Option Int):V:=.tup [intV (o.getD 0),B o.isSome]
def readK (v:V):List V→Hp→Prop:=fun l9 h =>
  bnd (biS .eql (ge l9 0) (.d (.str []))) fun v11 =>
  gd v11 false h (fun q=>q (ge l9 0) h) fun v12 h =>
  gd v11 false h (fun q=>bnd (ixS v12 (.d (.int .i64 0))) fun v=>q v h) fun v13 h =>
  gd v11 false h (fun q=>bnd (biI .eql v13 (.d (.int .u8 48))) fun v=>q v h) fun v14 h =>
  gd v11 false h (fun q=>q v14 h) fun v15 h =>
  gd v15 true h (fun q=>q (ge l9 0) h) fun v16 h =>
  gd v15 true h (fun q=>bnd (lenS v16) fun v=>q v h) fun v17 h =>
  gd v15 true h (fun q=>bnd (biI .gtr v17 (.d (.int .i64 1))) fun v=>q v h) fun v18 h =>
  gd v15 true h (fun q=>q v18 h) fun v19 h =>
  gd v19 false h (fun q=>bnd (faV 0 (.ptr 1 1 0 2)) fun v=>q v h) fun v20 h =>
  gd v19 false h (fun q=>bnd (ld1 h v20) fun v=>q v h) fun v21 h =>
  gd v15 true h (fun q=>bnd (pickV v19 (.d (.bool true)) v21) fun v=>q v h) fun v22 h =>
  gd v11 false h (fun q=>bnd (pickV v15 v22 (.d (.bool false))) fun v=>q v h) fun v23 h =>
  bnd (pickV v11 (.d (.bool true)) v23) fun v24 =>
  gd v24 false h (fun q=>q (ge l9 0) h) fun v25 h =>
  gd v24 false h (fun q=>bnd (lenS v25) fun v=>q v h) fun v26 h =>
  gd v24 false h (fun q=>bnd (biI .gtr v26 (.d (.int .i64 400))) fun v=>q v h) fun v27 h =>
  bnd (pickV v24 (.d (.bool true)) v27) fun v28 =>
  cnd v28 (
   bnd (bld [(0,1),(1,1)] [.bool false,.pl (.slice none 0 0)] []) fun v29 =>
   stD h 2 (.ptr 0 1 0 2) v29 fun _ h =>
   bnd (ldA h 2 (.ptr 0 1 0 2)) fun v31 =>
   out v (.tup [v31,(.d (.bool false))]) h) (
   bnd (lenS (ge l9 0)) fun v32 =>
   lp (checker_read_l0 (CX Y) (.ptr 0 1 0 2) (ge l9 0) (.ptr 1 1 0 2) v32) [] h [(.d (.int .i64 0))] h (exK [((.exit 0),fun l33 h =>
    bnd (ldA h 2 (.ptr 1 1 0 2)) fun v34 =>
    stD h 2 (.ptr 0 1 0 2) v34 fun _ h =>
    bnd (ldA h 2 (.ptr 0 1 0 2)) fun v36 =>
    out v (.tup [v36,(.d (.bool true))]) h),
    (.ret,fun l33 h =>
    bnd (ldA h 2 (.ptr 0 1 0 2)) fun v37 =>
    out v (.tup [v37,(ge l33 0)]) h)]))
theorem out_none (h:Hp):out (rdV none) (.tup [.agg [.d (.bool false),.d (.pl (.slice none 0 0))],.d (.bool false)]) h:=⟨h,by simp [rdV,snap,snaps,intV,intL,natD_zero]⟩
theorem read_tail (T:List UInt8) (neg:Bool):readK (rdV (rdO T neg)) [S T] (rdH neg (.d (.pl (.slice none 0 0)))):=by
 have hno:¬ (T.length≤400∧T≠[]∧¬ (T.headD 0=48∧(1 < T.length∨neg=true))∧T.all isDg=true)→rdO T neg=none:=fun h=>by unfold rdO; rw [if_neg h]
 cases T with
 | nil =>
  rw [hno (by simp)]
  simp (disch:=first|omega|simp<;>omega|fail)[readK,rdH]
  exact out_none _
 | cons b t =>
  have hix:ixS (S (b :: t)) (.d (.int .i64 0))=some (.d (.int .u8 b.toNat)):=rfl
  have hb48:(b.toNat:Int)=48↔b=48:=by
   constructor
   ·intro h; apply UInt8.toNat.inj; simpa using (by omega:b.toNat=48)
   ·rintro rfl; rfl
  by_cases hP:(b=48∧(1 < (b :: t).length∨neg=true))
  ·rw [hno (by rintro ⟨_,_,h,_⟩; exact h hP)]
   obtain ⟨h1,h2⟩:=hP
   have e48:=hb48.2 h1
   by_cases h3:1 < (b :: t).length
   ·have h3':(0:Int) < (t.length:Int):=by simp at h3; omega
    simp (disch:=first|omega|simp<;>omega|fail)[readK,hix,e48,h3,h3',rdH]
    exact out_none _
   ·have h4:neg=true:=by rcases h2 with h | h; exact absurd h h3; exact h
    subst h4
    have h3':t=[]:=List.eq_nil_of_length_eq_zero (by simp only [List.length_cons] at h3; omega)
    subst h3'
    simp (disch:=first|omega|simp<;>omega|fail)[readK,hix,e48,rdH]
    exact out_none _
  ·have main:¬ 400 < (b :: t).length→lp (checker_read_l0 (CX Y) (.ptr 0 1 0 2) (S (b :: t)) (.ptr 1 1 0 2) (I (b :: t).length)) [] (rdH neg (.d (.pl (.slice none 0 0)))) [(.d (.int .i64 0))] (rdH neg (.d (.pl (.slice none 0 0)))) (exK [((.exit 0),fun l33 h =>
     bnd (ldA h 2 (.ptr 1 1 0 2)) fun v34 =>
     stD h 2 (.ptr 0 1 0 2) v34 fun _ h =>
     bnd (ldA h 2 (.ptr 0 1 0 2)) fun v36 =>
     out (rdV (rdO (b :: t) neg)) (.tup [v36,(.d (.bool true))]) h),
     (.ret,fun l33 h =>
     bnd (ldA h 2 (.ptr 0 1 0 2)) fun v37 =>
     out (rdV (rdO (b :: t) neg)) (.tup [v37,(ge l33 0)]) h)]):=by
    intro hl
    refine read_loop neg _ _ rfl (b :: t) [] _ (by simp only [List.nil_append]; omega) (by simp) (.inr ⟨rfl,rfl⟩) (fun g x' hx'=>?_) (fun g x'=>?_)
    ·have hok:=isN_ok hx'
     have hr:rdO (b :: t) neg=some (if neg=true then -(hornB 0 (b :: t):Int) else (hornB 0 (b :: t):Int)):=by
      unfold rdO
      rw [if_pos ⟨by omega,by simp,by simpa using hP,g⟩]
     rw [hr]
     have hz:neg=true→hornB 0 (b :: t)≠0:=by
      intro hn
      have hb48':b≠48:=fun e=>hP ⟨e,.inr hn⟩
      simp only [List.all_cons,Bool.and_eq_true] at g
      have hb:=isDg_iff.1 g.1
      have hlo:=hornB_lo t (b.toNat - 48)
      have hb0:b.toNat≠48:=fun e=>hb48' (hb48.1 (by omega))
      have hp:1≤10 ^ t.length:=Nat.pow_pos (by decide)
      have:=Nat.mul_le_mul (show 1≤b.toNat - 48 by omega) hp
      rw [hornB_cons,Nat.zero_mul,Nat.zero_add]
      omega
     simp only [List.nil_append] at hx'
     generalize hornB 0 (b :: t)=n at *
     simp (disch:=first|omega|simp<;>omega|fail)[rdH,hok]
     refine out_sn ?_
     simp only [snap,snaps,isN_snap hx',rdV,Option.getD_some,Option.isSome_some,norm_bool]
     have:intV (if neg=true then -(n:Int) else (n:Int))=.agg [.d (.bool neg),nat n]:=by
      cases neg
      ·refine intV_eq (by simp) (by simp)
      ·have:=hz rfl
       refine intV_eq (by simp) (by simp; omega)
     rw [this]
    ·rw [hno (by rintro ⟨_,_,_,h⟩; rw [g] at h; cases h)]
     simp (disch:=first|omega|simp<;>omega|fail)[rdH]
     exact out_none _
   by_cases h48:b=48
   ·have hl1:¬ 1 < (b :: t).length:=fun h=>hP ⟨h48,.inl h⟩
    have hn0:neg=false:=by cases neg; rfl; exact absurd ⟨h48,.inr rfl⟩ hP
    have h3':t=[]:=List.eq_nil_of_length_eq_zero (by simp only [List.length_cons] at hl1; omega)
    subst h48
    subst hn0
    subst h3'
    have:=main (by simp)
    have e:((48:UInt8).toNat:Int)=48:=rfl
    simp (disch:=first|omega|simp<;>omega|fail)[readK,hix,e,rdH]
    simpa [rdH] using this
   ·have e48:¬ (b.toNat:Int)=48:=fun h=>h48 (hb48.1 h)
    by_cases hl:400 < (b :: t).length
    ·rw [hno (by rintro ⟨h,_⟩; omega)]
     have hl':(400:Int) < (t.length:Int)+1:=by simp only [List.length_cons] at hl; omega
     simp (disch:=first|omega|simp<;>omega|fail)[readK,hix,e48,hl',rdH]
     exact out_none _
    ·have:=main hl
     have hl':¬ (400:Int) < (t.length:Int)+1:=by simp only [List.length_cons] at hl; omega
     simp (disch:=first|omega|simp<;>omega|fail)[readK,hix,e48,hl',rdH]
     simpa [rdH] using this
theorem read_ok (s:List UInt8):CP Y F.checker_read [S s] (rdV (rd s)):=by
 have he:rd s=rdO (rdT s) (rdN s):=rd_eq s
 rw [he]
 refine checker_read_i ?_
 have ht:=read_tail (rdT s) (rdN s)
 cases s with
 | nil =>
  simp (disch:=first|omega|simp<;>omega|fail)[checker_read]
  refine jo_to (l:=[S []]) (h:=rdH false (.d (.pl (.slice none 0 0)))) (fun q=>?_) ht
  simp (disch:=first|omega|simp<;>omega|fail)[rdH]
 | cons b t =>
  have hix:ixS (S (b :: t)) (.d (.int .i64 0))=some (.d (.int .u8 b.toNat)):=rfl
  by_cases h:b=45
  ·subst h
   have e:((45:UInt8).toNat:Int)=45:=rfl
   simp (disch:=first|omega|simp<;>omega|fail)[checker_read,hix,e]
   refine jo_to (l:=[S t]) (h:=rdH true (.d (.pl (.slice none 0 0)))) (fun q=>?_) ht
   simp (disch:=first|omega|simp<;>omega|fail)[rdH]
  ·have e:¬ (b.toNat:Int)=45:=fun g=>h (by apply UInt8.toNat.inj; simpa using (by omega:b.toNat=45))
   have e1:rdT (b :: t)=b :: t:=by simp [rdT,h]
   have e2:rdN (b :: t)=false:=by simp [rdN,h]
   rw [e1,e2] at ht ⊢
   simp (disch:=first|omega|simp<;>omega|fail)[checker_read,hix,e]
   refine jo_to (l:=[S (b :: t)]) (h:=rdH false (.d (.pl (.slice none 0 0)))) (fun q=>?_) ht
   simp (disch:=first|omega|simp<;>omega|fail)[rdH]
end Go.Vm
