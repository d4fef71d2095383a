/- ref03: divide, GcdW, Canonical, Right. -/
import Derived.Test.YtbdajblfnkoagaaGreatDoorQCkFrac
import Derived.Test.YtbdajblfnkoagaaGreatDoorQDcZ
import Derived.Test.YtbdajblfnkoagaaGreatDoorQRefDiv
set_option linter.unusedVariables false
set_option linter.unusedSimpArgs false
namespace Go.Vm
open Go Go.Am Go.Big
theorem divide9_ok {a b:Nat} (hb:0 < b) (ha:len9 a < 10000000) (hbl:len9 b < 10000000):CP Y F.schismaref03_divide [nat9 a,nat9 b] (.tup [nat9 (a / b),nat9 (a % b)]):=by
 refine schismaref03_divide_i ?_
 have la:lenV (nat9 a)=some (I (len9 a)):=rfl
 obtain ⟨N,hN⟩:∃ N,len9 a=N:=⟨_,rfl⟩
 rw [hN] at la ha
 have hNl:N=(dig Z a).length:=hN.symm
 simp (disch:=first|omega|simp<;>omega|fail)[schismaref03_divide,la]
 have e2:[(1,Bk.data 1 (List.replicate N (D.int IntKind.i64 0)) true false),(0,.none),(0,.none)]=rH (List.replicate N 0) (0,.none) (0,.none):=by
  simp [rH,i9]
 rw [e2]
 refine lo (div9_loop (al:=dig Z a) (dig_small two_le_Z a) (by omega) hNl hb hbl _ _ N (List.replicate N 0) 0 _ (by omega) (by simp) (fun x hx=>by rw [List.mem_replicate] at hx; rw [hx.2]; exact Z_pos) (.inr ⟨rfl,rfl⟩) hb ?_ (fun j hj=>by rw [nth_eq _ _ _ (by simpa using hj)]; simp) fun o r rv ho hso hrv hr hv=>?_)
 ·rw [hNl,List.drop_length,List.drop_eq_nil_of_le (by simp)]
  simp [val]
 ·simp only [exK_exit]
  rw [val_dig two_le_Z] at hv
  have hq:val Z o=a / b:=by rw [hv,Nat.mul_add_div hb,Nat.div_eq_of_lt hr,Nat.add_zero]
  have hr2:r=a % b:=by rw [hv,Nat.mul_add_mod,Nat.mod_eq_of_lt hr]
  have t:=trim9_ok (s:=false) hso (by omega)
  rw [hq] at t
  have sn:snap (rH o (0,.none) (0,.none)) (.agg [.d (.bool false),.ref 0 1 0 N N N])=some (.agg [.d (.bool false),lst i9 o],[(1,.data 1 (o.map i9) true true),(0,.none),(0,.none)]):=by
   simp [snap,snaps,toD,rH,hget,lst,ho]
   rw [List.take_of_length_le (by simp; omega)]
  simp (disch:=first|omega|simp<;>omega|fail)[]
  refine cdz (ds:=[.agg [.d (.bool false),lst i9 o]]) (h':=[(1,.data 1 (o.map i9) true true),(0,.none),(0,.none)]) (by simp only [snaps,sn]) t ?_
  simp (disch:=first|omega|simp<;>omega|fail)[wh]
  have srv:∀ h:Hp,snap h rv=some (nat9 (a % b),h):=fun h=>by
   rcases hrv with rfl | ⟨rfl,h0⟩
   ·rw [hr2]; exact snap_lst _ _ _
   ·rw [← hr2,h0]; rfl
  exact out_tup2 (snap_lst _ _ _) (srv _)
theorem gcd9_loop (k:KL) (H h0:Hp) (hh:h0.length=H.length):∀ (y x:Nat),len9 x < 10000000→len9 y < 10000000→k (.exit 0) [nat9 (Nat.gcd x y)] H→lp (schismaref03_GcdW_l0 (CX Y)) [] h0 [nat9 x,nat9 y] H k:=by
 intro y
 induction y using Nat.strongRecOn with
 | _ y ih =>
  intro x hx hy hk
  have ly:lenV (nat9 y)=some (I (len9 y)):=rfl
  by_cases h:y=0
  ·subst h
   rw [Nat.gcd_zero_right] at hk
   have l0:len9 0=0:=rfl
   refine lp_in ?_
   simp (disch:=first|omega|simp<;>omega|fail)[schismaref03_GcdW_l0,ly,l0]
   exact hk
  ·have hyp:0 < y:=by omega
   have hm:=Nat.mod_lt x hyp
   have l0:0 < len9 y:=by
    rcases Nat.eq_zero_or_pos (len9 y) with h1 | h1
    ·have:=lt_dig y
     unfold len9 at h1
     rw [h1] at this; simp at this; omega
    ·exact h1
   have hk2:=ih (x % y) hm y hy (by have:=len9_le (n:=x % y) (k:=len9 y) (Nat.lt_trans hm (lt_dig y)); omega) (by
    rw [Nat.gcd_comm y,← Nat.gcd_rec,Nat.gcd_comm y]; exact hk)
   have dv:=divide9_ok (a:=x) (b:=y) hyp hx hy
   refine lp_in ?_
   simp (disch:=first|omega|simp<;>omega|fail)[schismaref03_GcdW_l0,ly,l0]
   refine cd dv ?_ (by simp [snaps,nat9])
   simp (disch:=first|omega|simp<;>omega|fail)[hh]
   exact hk2
theorem gcd9_ok {s t:Bool} {x y:Nat} (hx:len9 x < 10000000) (hy:len9 y < 10000000):CP Y F.schismaref03_GcdW [wh s x,wh t y] (wh false (Nat.gcd x y)):=by
 refine schismaref03_GcdW_i ?_
 simp (disch:=first|omega|simp<;>omega|fail)[schismaref03_GcdW,wh]
 refine lo (gcd9_loop _ _ _ rfl y x hx hy ?_)
 have ok9:okV (lst i9 (dig Z (Nat.gcd x y)))=true:=rfl
 simp (disch:=first|omega|simp<;>omega|fail)[nat9,ok9]
 exact out_wh false _ _
theorem canR_loop (l:List UInt8) (hl:l.length < 1000000000) (k:KL):∀ (q p:List UInt8),p++q=l→(q.all isDg=true→k (.exit 0) [] [])→(q.all isDg=false→k .ret [B false] [])→lp (schismaref03_Canonical_l0 (CX Y) (S l)) [] [] [I p.length] [] k
 | []=>by
  intro p hp h0 h1
  simp at hp
  subst hp
  have lL:lenS (S p)=some (I p.length):=rfl
  refine lp_in ?_
  simp (disch:=first|omega|simp<;>omega|fail)[schismaref03_Canonical_l0,lL]
  exact h0 rfl
 | c :: q=>by
  intro p hp h0 h1
  have hpl:p.length < l.length:=by subst hp; simp
  have lL:lenS (S l)=some (I l.length):=rfl
  have e1:ixS (S l) (.d (.int .i64 (p.length:Int)))=some (.d (.int .u8 c.toNat)):=ixS_at _ (by omega) (by subst hp; simp)
  have ih:=canR_loop l hl k q (p++[c]) (by simpa using hp)
  refine lp_in ?_
  by_cases g1:(c.toNat:Int) < 48
  ·have g3:isDg c=false:=by rw [Bool.eq_false_iff]; intro h; rw [isDg_iff] at h; omega
   simp (disch:=first|omega|simp<;>omega|fail)[schismaref03_Canonical_l0,lL,e1,g1]
   exact h1 (by simp [g3])
  ·by_cases g2:(57:Int) < c.toNat
   ·have g3:isDg c=false:=by rw [Bool.eq_false_iff]; intro h; rw [isDg_iff] at h; omega
    simp (disch:=first|omega|simp<;>omega|fail)[schismaref03_Canonical_l0,lL,e1,g1,g2]
    exact h1 (by simp [g3])
   ·have g3:isDg c=true:=by rw [isDg_iff]; omega
    have:=ih (fun h=>h0 (by simp [g3]; simpa using h)) (fun h=>h1 (by simp only [List.all_cons,h,Bool.and_false]))
    simp (disch:=first|omega|simp<;>omega|fail)[schismaref03_Canonical_l0,lL,e1,g1,g2]
    simpa using this
theorem hasPrefixL_ok (s p:List UInt8):CP Y F.i_stringslite_HasPrefix [S s,S p] (B (p.isPrefixOf s)):=by
 refine i_stringslite_HasPrefix_i ?_
 simp (disch:=first|omega|simp<;>omega|fail)[i_stringslite_HasPrefix]
 by_cases h:p.length≤s.length
 ·simp (disch:=first|omega|simp<;>omega|fail)[h]
  refine out_b ?_
  rw [Bool.eq_iff_iff,beq_iff_eq,List.isPrefixOf_iff_prefix,List.prefix_iff_eq_take]
  exact eq_comm
 ·simp (disch:=first|omega|simp<;>omega|fail)[h]
  refine out_b ?_
  symm
  rw [Bool.eq_false_iff]
  intro hp
  rw [List.isPrefixOf_iff_prefix] at hp
  exact h hp.length_le
theorem trimPre_ok (s:List UInt8):CP Y F.strings_TrimPrefix [S s,S [45]] (S (rdT s)):=by
 refine strings_TrimPrefix_i ?_
 simp (disch:=first|omega|simp<;>omega|fail)[strings_TrimPrefix]
 refine cd (v:=S (rdT s)) (i_stringslite_TrimPrefix_i ?_) ?_
 ·simp (disch:=first|omega|simp<;>omega|fail)[i_stringslite_TrimPrefix]
  refine cd (hasPrefixL_ok s [45]) ?_
  cases s with
  | nil=>simp (disch:=first|omega|simp<;>omega|fail)[rdT] <;> exact out_s rfl
  | cons c t =>
   by_cases h:c=45
   ·subst h
    have e:List.isPrefixOf [45] ((45:UInt8) :: t)=true:=by simp [List.isPrefixOf]
    have e2:slS (S ((45:UInt8) :: t)) (some (I 1)) none=some (S t):=by
     simp [slS,boV]
     rw [if_pos (by omega)]
     simp
    simp (disch:=first|omega|simp<;>omega|fail)[e,e2]
    exact out_s (by simp [rdT])
   ·have e:List.isPrefixOf [45] (c :: t)=false:=by simp [List.isPrefixOf]; exact fun h'=>h h'.symm
    simp (disch:=first|omega|simp<;>omega|fail)[e]
    exact out_s (by simp [rdT,h])
 ·exact out_s rfl
theorem canR_ok (s:List UInt8) (hs:s.length < 1000000000):CP Y F.schismaref03_Canonical [S s] (B (rd s).isSome):=by
 refine schismaref03_Canonical_i ?_
 have hT:(rdT s).length < 1000000000:=by
  unfold rdT; split
  ·have:s.tail.length=s.length - 1:=List.length_tail
   omega
  ·exact hs
 have hNs:rdN s=false→rdT s=s:=fun h=>by
  unfold rdN at h
  unfold rdT
  rw [if_neg (by simpa using h)]
 have hYs:rdN s=true→¬ s=[48]:=fun h e=>by rw [e] at h; simp [rdN] at h
 have f1:400 < (rdT s).length→(rd s).isSome=false:=fun h=>by rw [rd_eq,if_neg (fun h'=>by have:=h'.1; omega)]; rfl
 have f2:(rdT s).all isDg=false→(rd s).isSome=false:=fun h=>by rw [rd_eq,if_neg (fun h'=>by rw [h'.2.2.2] at h; cases h)]; rfl
 have f3:rdT s=[]→(rd s).isSome=false:=fun h=>by rw [rd_eq,if_neg (fun h'=>h'.2.1 h)]; rfl
 have f4:(rdT s).headD 0=48→¬ s=[48]→(rd s).isSome=false:=fun h h2=>by
  rw [rd_eq,if_neg (fun h'=>?_)]
  ·rfl
  ·refine h'.2.2.1 ⟨h,?_⟩
   cases hn:rdN s with
   | true=>exact .inr rfl
   | false =>
    left
    have e:=hNs hn
    rw [e] at h ⊢
    cases s with
    | nil=>simp at h
    | cons c t =>
     cases t with
     | nil=>simp at h; exact absurd (by rw [h]) h2
     | cons d t=>simp
 have f5:(rdT s).length≤400→rdT s≠[]→¬ ((rdT s).headD 0=48∧¬ s=[48])→(rdT s).all isDg=true→(rd s).isSome=true:=fun h1 h2 h3 h4=>by
  have key:¬ ((rdT s).headD 0=48∧(1 < (rdT s).length∨rdN s=true)):=by
   intro h'
   have e48:s=[48]:=by
    by_cases g:s=[48]
    ·exact g
    ·exact absurd ⟨h'.1,g⟩ h3
   rcases h'.2 with h5 | h5
   ·have hn:rdN s=false:=by rw [e48]; simp [rdN]
    rw [hNs hn,e48] at h5
    simp at h5
   ·exact hYs h5 e48
  rw [rd_eq,if_pos ⟨h1,h2,key,h4⟩]
  rfl
 obtain ⟨R,hR⟩:∃ R,(rd s).isSome=R:=⟨_,rfl⟩
 rw [hR] at f1 f2 f3 f4 f5 ⊢
 simp (disch:=first|omega|simp<;>omega|fail)[schismaref03_Canonical]
 refine cd (trimPre_ok s) ?_
 obtain ⟨T,hTe⟩:∃ T,rdT s=T:=⟨_,rfl⟩
 rw [hTe] at hT f1 f2 f3 f4 f5 ⊢
 cases T with
 | nil =>
  have:=f3 rfl
  subst this
  simp (disch:=first|omega|simp<;>omega|fail)[] <;> exact out_b rfl
 | cons c t =>
  have lL:lenS (S (c :: t))=some (I (c :: t).length):=rfl
  have hix:ixS (S (c :: t)) (.d (.int .i64 0))=some (.d (.int .u8 c.toNat)):=rfl
  obtain ⟨N,hN⟩:∃ N,(c :: t).length=N:=⟨_,rfl⟩
  rw [hN] at lL hT f1 f5
  have hN1:1≤N:=by rw [← hN]; simp
  have g0:¬ (N:Int)=0:=by omega
  have g0':¬ N=0:=by omega
  by_cases h4:(400:Int) < N
  ·have:=f1 (by omega)
   subst this
   simp (disch:=first|omega|simp<;>omega|fail)[lL,g0,g0',h4] <;> exact out_b rfl
  ·have tail:¬ (c=48∧¬ s=[48])→lp (schismaref03_Canonical_l0 (CX Y) (S (c :: t))) [] [] [I (0:Nat)] [] (exK [((.exit 0),fun l16 h=>out (B R) (.d (.bool true)) h),(.ret,fun l16 h=>out (B R) (ge l16 0) h)]):=by
    intro hc
    refine canR_loop (c :: t) (by omega) _ (c :: t) [] rfl (fun e=>?_) (fun e=>?_)
    ·simp only [exK_exit]
     exact out_b (f5 (by omega) (by simp) (by simpa using hc) e).symm
    ·simp only [exK_ret2,exK_ret]
     exact out_b (f2 e).symm
   by_cases h48:c=48
   ·have e48:((c.toNat:Nat):Int)=48:=by rw [h48]; rfl
    by_cases hs48:s=[48]
    ·have:=tail (fun h=>h.2 hs48)
     simp (disch:=first|omega|simp<;>omega|fail)[lL,g0,g0',h4,hix,e48,hs48]
     exact this
    ·have hRf:=f4 (by simpa using h48) hs48
     subst hRf
     simp (disch:=first|omega|simp<;>omega|fail)[lL,g0,g0',h4,hix,e48,hs48] <;> exact out_b rfl
   ·have e48:¬ ((c.toNat:Nat):Int)=48:=fun g=>h48 (by apply UInt8.toNat.inj; simpa using (by omega:c.toNat=48))
    have:=tail (fun h=>h48 h.1)
    simp (disch:=first|omega|simp<;>omega|fail)[lL,g0,g0',h4,hix,e48]
    exact this
theorem rdF_isSome9 (a b:List UInt8):(rdF a b).isSome=match rd a,rd b with
  | some n,some d=>decide (0 < d∧Nat.gcd n.natAbs d.natAbs=1)
  | _,_=>false:=by
 unfold rdF
 cases rd a <;> cases rd b <;> simp
 split <;> simp_all
theorem rd_text9 {s:List UInt8} {z:Int} (h:rd s=some z):s=itoa z∧ndg z.natAbs≤400∧len9 z.natAbs < 1000:=by
 have hb:=rd_bound h
 unfold rd at h
 split at h
 ·refine ⟨rdS_some h,ndg_le hb (by decide),?_⟩
  have h3:z.natAbs < Z ^ 45:=Nat.lt_of_lt_of_le hb (by rw [Z_pow]; set_option exponentiation.threshold 1000 in exact Nat.pow_le_pow_right (by decide) (by decide))
  have:=len9_le h3
  omega
 ·cases h
theorem rightR_ok (a b:List UInt8) (ha:a.length < 1000000000) (hb:b.length < 1000000000):CP Y F.schismaref03_Right [.agg [S a,S b]] (B (rdF a b).isSome):=by
 refine schismaref03_Right_i ?_
 have ca:=canR_ok a ha
 have cb:=canR_ok b hb
 rw [rdF_isSome9]
 simp (disch:=first|omega|simp<;>omega|fail)[schismaref03_Right]
 refine cd ca ?_
 cases hra:rd a with
 | none =>
  simp (disch:=first|omega|simp<;>omega|fail)[] <;> exact out_b rfl
 | some z =>
  simp (disch:=first|omega|simp<;>omega|fail)[]
  refine cd cb ?_
  cases hrb:rd b with
  | none=>simp (disch:=first|omega|simp<;>omega|fail)[] <;> exact out_b rfl
  | some w =>
   obtain ⟨ea,na,nza⟩:=rd_text9 hra
   obtain ⟨eb,nb,nzb⟩:=rd_text9 hrb
   subst ea
   subst eb
   have ta:=to_ok (z:=z) (by omega)
   have tb:=to_ok (z:=w) (by omega)
   have sg:=signW_ok (s:=decide (w < 0)) (n:=w.natAbs) (by omega)
   have gg:=gcd9_ok (s:=decide (z < 0)) (t:=decide (w < 0)) (x:=z.natAbs) (y:=w.natAbs) (by omega) (by omega)
   have okn:okV (nat9 w.natAbs)=true:=rfl
   simp (disch:=first|omega|simp<;>omega|fail)[]
   refine cd tb ?_
   simp (disch:=first|omega|simp<;>omega|fail)[intW,wh,okn]
   refine cd (args:=[.agg [.d (.bool (decide (w < 0))),nat9 w.natAbs]]) sg ?_ (by simp [snaps,snap,nat9])
   by_cases hw:0 < w
   ·have hs:(if w.natAbs=0 then (0:Int) else if decide (w < 0)=true then -1 else 1)=1:=by
     rw [if_neg (by omega),if_neg (by simp; omega)]
    rw [hs]
    simp (disch:=first|omega|simp<;>omega|fail)[]
    refine cd ta ?_
    simp (disch:=first|omega|simp<;>omega|fail)[intW,wh]
    refine cd (args:=[.agg [.d (.bool (decide (z < 0))),nat9 z.natAbs],.agg [.d (.bool (decide (w < 0))),nat9 w.natAbs]]) gg ?_ (by simp [snaps,snap,nat9])
    have hgl:len9 (Nat.gcd z.natAbs w.natAbs) < 100000000:=by
     have h1:Nat.gcd z.natAbs w.natAbs≤w.natAbs:=Nat.gcd_le_right _ (by omega)
     have:=len9_le (n:=Nat.gcd z.natAbs w.natAbs) (k:=len9 w.natAbs) (Nat.lt_of_le_of_lt h1 (lt_dig _))
     omega
    have fr:=from_wh (s:=false) (n:=Nat.gcd z.natAbs w.natAbs) hgl (fun _=>rfl)
    simp (disch:=first|omega|simp<;>omega|fail)[wh]
    refine cd (args:=[.agg [.d (.bool false),nat9 (Nat.gcd z.natAbs w.natAbs)]]) fr ?_ (by simp [snaps,snap,nat9])
    by_cases hg:Nat.gcd z.natAbs w.natAbs=1
    ·have e1:itoaN 1=[49]:=by rw [itoaN,show ndg 1=1 by unfold ndg; simp]; rfl
     rw [show itoaN (Nat.gcd z.natAbs w.natAbs)=[49] by rw [hg,e1]]
     simp (disch:=first|omega|simp<;>omega|fail)[] <;> exact out_b (by simp [hw]; exact hg.symm ▸ rfl)
    ·have e1:¬ itoaN (Nat.gcd z.natAbs w.natAbs)=[49]:=by
      intro e
      have:=congrArg (hornB 0) e
      rw [hornB_itoaN] at this
      exact hg this
     simp (disch:=first|omega|simp<;>omega|fail)[e1] <;> exact out_b (by simp [hw,hg,e1])
   ·have hs:¬ 0 < (if w.natAbs=0 then (0:Int) else if decide (w < 0)=true then -1 else 1):=by
     by_cases h0:w.natAbs=0
     ·rw [if_pos h0]; decide
     ·rw [if_neg h0,if_pos (by simp; omega)]; decide
    simp (disch:=first|omega|simp<;>omega|fail)[hs] <;> exact out_b (by simp [hw])
theorem right03_ok (a b:List UInt8) (ha:a.length < 1000000000) (hb:b.length < 1000000000):CP Y F.schismalaw03_Right [.agg [S a,S b]] (B (rdF a b).isSome):=by
 refine schismalaw03_Right_i ?_
 simp (disch:=first|omega|simp<;>omega|fail)[schismalaw03_Right]
 refine cd (rightR_ok a b ha hb) ?_
 exact out_b rfl
end Go.Vm
