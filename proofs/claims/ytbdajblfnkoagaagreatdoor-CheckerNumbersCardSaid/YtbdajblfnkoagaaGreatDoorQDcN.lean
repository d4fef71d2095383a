/- Naturals in digits: Gcd; integers (package whole): split, Check, Sign, Abs, little, Gcd. -/
import Derived.Test.YtbdajblfnkoagaaGreatDoorQCkFrac
import Derived.Test.YtbdajblfnkoagaaGreatDoorQDcZ
import Derived.Test.YtbdajblfnkoagaaGreatDoorQT
set_option linter.unusedVariables false
set_option linter.unusedSimpArgs false
namespace Go.Vm
open Go Go.Am Go.Big
theorem ndg_mono {a b:Nat} (h:a≤b):ndg a≤ndg b:=ndg_le (Nat.lt_of_le_of_lt h (ndg_hi b)) (ndg_pos b)
theorem gcdD_loop (k:KL):∀ (b a:Nat),ndg a < 1000000→ndg b < 1000000→k (.exit 0) [S (itoaN (Nat.gcd a b))] []→lp (decimal_Gcd_l0 (CX Y)) [] [] [S (itoaN a),S (itoaN b)] [] k:=by
 intro b
 induction b using Nat.strongRecOn with
 | _ b ih =>
  intro a ha hb hk
  by_cases h0:b=0
  ·subst h0
   rw [Nat.gcd_zero_right] at hk
   refine lp_in ?_
   rw [itoaN_zero]
   simp (disch:=first|omega|simp<;>omega|fail)[decimal_Gcd_l0]
   exact hk
  ·have hbp:0 < b:=by omega
   have hne:¬ itoaN b=[48]:=by
    rw [← itoaN_zero]
    intro e
    have:=congrArg (hornB 0) e
    rw [hornB_itoaN,hornB_itoaN] at this
    omega
   have hm:=Nat.mod_lt a hbp
   have hk2:=ih (a % b) hm b hb (Nat.lt_of_le_of_lt (ndg_mono (Nat.le_of_lt hm)) hb) (by
    rw [Nat.gcd_comm b,← Nat.gcd_rec,Nat.gcd_comm b]; exact hk)
   refine lp_in ?_
   simp (disch:=first|omega|simp<;>omega|fail)[decimal_Gcd_l0,hne]
   refine cd (divmod_ok hbp ha hb) ?_
   simp (disch:=first|omega|simp<;>omega|fail)[]
   exact hk2
theorem gcdD_ok {a b:Nat} (ha:ndg a < 1000000) (hb:ndg b < 1000000):CP Y F.decimal_Gcd [S (itoaN a),S (itoaN b)] (S (itoaN (Nat.gcd a b))):=by
 refine decimal_Gcd_i ?_
 simp (disch:=first|omega|simp<;>omega|fail)[decimal_Gcd]
 refine lo (gcdD_loop _ b a ha hb ?_)
 simp (disch:=first|omega|simp<;>omega|fail)[]
 exact out_s rfl
theorem gcdI_loop (k:KL):∀ (b a:Nat),a < 1000000000000000000→b < 1000000000000000000→k (.exit 0) [I (Nat.gcd a b:Nat)] []→lp (whole_gcd_l0 (CX Y)) [] [] [I a,I b] [] k:=by
 intro b
 induction b using Nat.strongRecOn with
 | _ b ih =>
  intro a ha hb hk
  by_cases h0:(b:Int)=0
  ·have:b=0:=by omega
   subst this
   rw [Nat.gcd_zero_right] at hk
   refine lp_in ?_
   simp (disch:=first|omega|simp<;>omega|fail)[whole_gcd_l0]
   exact hk
  ·have hbp:0 < b:=by omega
   have hm:=Nat.mod_lt a hbp
   have hk2:=ih (a % b) hm b hb (by omega) (by
    rw [Nat.gcd_comm b,← Nat.gcd_rec,Nat.gcd_comm b]; exact hk)
   have h0':¬ b=0:=by omega
   have e2:(a:Int) % (b:Int)=((a % b:Nat):Int):=by simp
   obtain ⟨r,hr⟩:∃ r,a % b=r:=⟨_,rfl⟩
   rw [hr] at hk2 e2
   refine lp_in ?_
   simp (disch:=first|omega|simp<;>omega|fail)[whole_gcd_l0,h0,h0',Int.tmod_eq_emod_of_nonneg,e2]
   exact hk2
theorem gcdI_ok {a b:Nat} (ha:a < 1000000000000000000) (hb:b < 1000000000000000000):CP Y F.whole_gcd [I a,I b] (I (Nat.gcd a b:Nat)):=by
 refine whole_gcd_i ?_
 simp (disch:=first|omega|simp<;>omega|fail)[whole_gcd]
 refine lo (gcdI_loop _ b a ha hb ?_)
 simp only [exK_exit]
 exact out_i rfl
theorem ofW_ok {n:Nat} (h:n < 9223372036854775808):CP Y F.whole_Of [I n] (S (itoaN n)):=by
 refine whole_Of_i ?_
 simp (disch:=first|omega|simp<;>omega|fail)[whole_Of]
 have e:itoa (n:Int)=itoaN n:=by unfold itoa; rw [if_neg (by omega)]; rfl
 refine cd (itoa_ok (z:=n) (by omega) (by omega)) ?_
 rw [e]
 try simp (disch:=first|omega|simp<;>omega|fail)[]
 exact out_s rfl
theorem little_ok9 (a:Nat):CP Y F.whole_little [S (itoaN a),I 18] (if ndg a≤18 then .tup [I a,B true] else .tup [I 0,B false]):=by
 refine whole_little_i ?_
 have la:=len_itoaN a
 by_cases h:18 < ndg a
 ·rw [if_neg (by omega)]
  simp (disch:=first|omega|simp<;>omega|fail)[whole_little,la,h]
  exact out_tup2 rfl rfl
 ·rw [if_pos (by omega)]
  have ap:=atoi_ok (n:=a) (ndg_pos a) (by omega) (ndg_hi a)
  have en:biF .eql (.d (.pl .nilIface)) (.d (.pl .nilIface))=some (.d (.bool true)):=rfl
  simp (disch:=first|omega|simp<;>omega|fail)[whole_little,la,h]
  refine cd (args:=[S (itoaN a)]) ap ?_
  simp (disch:=first|omega|simp<;>omega|fail)[en]
  exact out_tup2 rfl rfl
theorem split_ok (s:List UInt8):CP Y F.whole_split [S s] (.tup [B (rdN s),S (rdT s)]):=by
 refine whole_split_i ?_
 cases s with
 | nil =>
  simp (disch:=first|omega|simp<;>omega|fail)[whole_split]
  exact out_tup2 rfl rfl
 | cons c t =>
  have hix:ixS (S (c :: t)) (.d (.int .i64 0))=some (.d (.int .u8 c.toNat)):=rfl
  by_cases h:c=45
  ·subst h
   have e:((45:UInt8).toNat:Int)=45:=rfl
   simp (disch:=first|omega|simp<;>omega|fail)[whole_split,hix,e]
   exact out_tup2 rfl rfl
  ·have e:¬ (c.toNat:Int)=45:=fun g=>h (by apply UInt8.toNat.inj; simpa using (by omega:c.toNat=45))
   have e1:rdT (c :: t)=c :: t:=by simp [rdT,h]
   have e2:rdN (c :: t)=false:=by simp [rdN,h]
   rw [e1,e2]
   simp (disch:=first|omega|simp<;>omega|fail)[whole_split,hix,e]
   exact out_tup2 rfl rfl
theorem canD_loop (l:List UInt8) (hl:l.length < 1000000000) (k:KL):∀ (q p:List UInt8),p++q=l→(q.all isDg=true→k (.exit 0) [] [])→(q.all isDg=false→k .ret [B false] [])→lp (decimal_Canonical_l0 (CX Y) (lst u8 l) (I l.length)) [] [] [I p.length] [] k
 | []=>by
  intro p hp h0 h1
  simp at hp
  subst hp
  refine lp_in ?_
  simp (disch:=first|omega|simp<;>omega|fail)[decimal_Canonical_l0]
  exact h0 rfl
 | c :: q=>by
  intro p hp h0 h1
  have hpl:p.length < l.length:=by subst hp; simp
  have hc:nth 0 l p.length=c:=by subst hp; simp
  have e1:=fun h:Hp=>ix_nth u8 l h (k:=.i64) (i:=(p.length:Int)) (by omega) (by omega)
  have e2:=fun h:Hp=>ld_nth u8 0 l h (j:=p.length) hpl
  rw [hc] at e2
  simp only [Int.toNat_natCast] at e1
  have ih:=canD_loop l hl k q (p++[c]) (by simpa using hp)
  refine lp_in ?_
  by_cases g1:(c.toNat:Int) < 48
  ·have g3:isDg c=false:=by rw [Bool.eq_false_iff]; intro h; rw [isDg_iff] at h; omega
   simp (disch:=first|omega|simp<;>omega|fail)[decimal_Canonical_l0,e1,e2,u8,g1]
   exact h1 (by simp [g3])
  ·by_cases g2:(57:Int) < c.toNat
   ·have g3:isDg c=false:=by rw [Bool.eq_false_iff]; intro h; rw [isDg_iff] at h; omega
    simp (disch:=first|omega|simp<;>omega|fail)[decimal_Canonical_l0,e1,e2,u8,g1,g2]
    exact h1 (by simp [g3])
   ·have g3:isDg c=true:=by rw [isDg_iff]; omega
    have:=ih (fun h=>h0 (by simp [g3]; simpa using h)) (fun h=>h1 (by simp only [List.all_cons,h,Bool.and_false]))
    simp (disch:=first|omega|simp<;>omega|fail)[decimal_Canonical_l0,e1,e2,u8,g1,g2]
    simpa using this
theorem canD_ok (l:List UInt8) (hl:l.length < 1000000000):CP Y F.decimal_Canonical [S l] (B (canT l)):=by
 refine decimal_Canonical_i ?_
 unfold decimal_Canonical
 show cvB (S l) _ _
 rw [cvB_S]
 have lL:lenS (S l)=some (I l.length):=rfl
 simp (disch:=first|omega|simp<;>omega|fail)[]
 refine lo (canD_loop l hl _ l [] rfl (fun e=>?_) (fun e=>?_))
 ·simp only [exK_exit]
  cases l with
  | nil =>
   simp (disch:=first|omega|simp<;>omega|fail)[lL]
   exact out_b (by simp [canT])
  | cons c t =>
   have hix:ixS (S (c :: t)) (.d (.int .i64 0))=some (.d (.int .u8 c.toNat)):=rfl
   cases t with
   | nil =>
    simp (disch:=first|omega|simp<;>omega|fail)[lL]
    exact out_b (by simp [canT] at e ⊢; exact e)
   | cons d t =>
    obtain ⟨N,hN⟩:∃ N,(c :: d :: t).length=N:=⟨_,rfl⟩
    have hN2:2≤N:=by rw [← hN]; simp only [List.length_cons]; omega
    rw [hN] at lL
    have g2:(1:Int) < (N:Int):=by omega
    have g3:¬ (N:Int)=1:=by omega
    by_cases h:c=48
    ·subst h
     have e48:((48:UInt8).toNat:Int)=48:=rfl
     simp (disch:=first|omega|simp<;>omega|fail)[lL,g2,g3,hix,e48]
     exact out_b (by simp [canT])
    ·have e48:¬ (c.toNat:Int)=48:=fun g=>h (by apply UInt8.toNat.inj; simpa using (by omega:c.toNat=48))
     simp (disch:=first|omega|simp<;>omega|fail)[lL,g2,g3,hix,e48]
     exact out_b (by
      have:canT (c :: d :: t)=true:=by simp only [canT,e]; simp [h]
      exact this.symm)
 ·simp only [exK_ret2,exK_ret]
  exact out_b (by simp only [canT,e,Bool.and_false,Bool.false_and])
theorem checkD_ok (l:List UInt8) (hl:l.length < 1000000000):CP Y F.decimal_Check [S l] (I (if canT l=true∧l.length≤400 then 0 else 2)):=by
 refine decimal_Check_i ?_
 have lL:lenS (S l)=some (I l.length):=rfl
 obtain ⟨N,hN⟩:∃ N,l.length=N:=⟨_,rfl⟩
 rw [hN] at lL ⊢
 simp (disch:=first|omega|simp<;>omega|fail)[decimal_Check]
 refine cd (canD_ok l hl) ?_
 cases hc:canT l with
 | false =>
  simp (disch:=first|omega|simp<;>omega|fail)[] <;> exact out_i (by simp)
 | true =>
  by_cases h:(400:Int) < N
  ·simp (disch:=first|omega|simp<;>omega|fail)[lL,h] <;> exact out_i (by rw [if_neg (by omega)])
  ·have h2:true=true∧N≤400:=⟨rfl,by omega⟩
   simp (disch:=first|omega|simp<;>omega|fail)[lL,h] <;> exact out_i (by rw [if_pos h2.2])
theorem rd_isSome (s:List UInt8):(rd s).isSome=(!(rdN s && decide (rdT s=[48])) && (canT (rdT s) && decide ((rdT s).length≤400))):=by
 unfold rd rdS rdN rdT
 by_cases h45:s.headD 0=45
 ·simp only [h45,if_true]
  obtain ⟨t,ht⟩:∃ t,s.tail=t:=⟨_,rfl⟩
  rw [ht]
  by_cases hl:t.length≤400
  ·by_cases h48:t=[48]
   ·simp [h48]
   ·cases hc:canT t <;> simp [hl,h48]
  ·simp [hl]
 ·simp only [h45,if_false]
  by_cases hl:s.length≤400
  ·cases hc:canT s <;> simp [hl]
  ·simp [hl]
theorem checkW_ok (s:List UInt8) (hs:s.length < 1000000000):CP Y F.whole_Check [S s] (I (if (rd s).isSome then 0 else 2)):=by
 refine whole_Check_i ?_
 have hT:(rdT s).length < 1000000000:=by
  unfold rdT; split
  ·have:s.tail.length=s.length - 1:=List.length_tail
   omega
  ·exact hs
 rw [rd_isSome]
 simp (disch:=first|omega|simp<;>omega|fail)[whole_Check]
 refine cd (split_ok s) ?_
 have hck:=checkD_ok (rdT s) hT
 obtain ⟨t,ht⟩:∃ t,rdT s=t:=⟨_,rfl⟩
 rw [ht] at hck ⊢
 obtain ⟨c4,hc4⟩:∃ c4,(canT t && decide (t.length≤400))=c4:=⟨_,rfl⟩
 have hck2:CP Y F.decimal_Check [S t] (I (if c4=true then 0 else 2)):=by
  have:(if canT t=true∧t.length≤400 then (0:Int) else 2)=if c4=true then 0 else 2:=by
   rw [← hc4]
   by_cases h:canT t=true∧t.length≤400
   ·rw [if_pos h]; simp [h]
   ·rw [if_neg h]
    rw [if_neg (by simpa using h)]
  rw [← this]; exact hck
 rw [hc4]
 cases hn:rdN s with
 | true =>
  by_cases h3:t=[48]
  ·simp (disch:=first|omega|simp<;>omega|fail)[h3] <;> exact out_i (by simp)
  ·simp (disch:=first|omega|simp<;>omega|fail)[h3]
   refine cd hck2 ?_
   cases c4 with
   | true=>simp (disch:=first|omega|simp<;>omega|fail)[h3] <;> exact out_i (by simp [h3])
   | false=>simp (disch:=first|omega|simp<;>omega|fail)[h3] <;> exact out_i (by simp [h3])
 | false =>
  simp (disch:=first|omega|simp<;>omega|fail)[]
  refine cd hck2 ?_
  cases c4 with
  | true=>simp (disch:=first|omega|simp<;>omega|fail)[] <;> exact out_i (by simp)
  | false=>simp (disch:=first|omega|simp<;>omega|fail)[] <;> exact out_i (by simp)
end Go.Vm
