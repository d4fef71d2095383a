/- The size of rank: short, Check; the law numbers. -/
import Derived.Test.YtbdajblfnkoagaaGreatDoorQLibSl
import Derived.Test.YtbdajblfnkoagaaGreatDoorQRefGcd
import Derived.Test.YtbdajblfnkoagaaGreatDoorQSzA
import Derived.Test.YtbdajblfnkoagaaGreatDoorQT
set_option linter.unusedVariables false
set_option linter.unusedSimpArgs false
namespace Go.Vm
open Go Go.Am Go.Big
theorem absT_ok (s:List UInt8):CP Y F.whole_Abs [S s] (S (rdT s)):=by
 refine whole_Abs_i ?_
 simp (disch:=first|omega|simp<;>omega|fail)[whole_Abs]
 refine cd (split_ok s) ?_
 simp (disch:=first|omega|simp<;>omega|fail)[] <;> exact out_s rfl
theorem shortP_ok (a b:List UInt8) (ha:a.length < 1000000000) (hb:b.length < 1000000000):CP Y F.size_short [.agg [S a,S b]] (B (shortB a && decide (b.length≤30))):=by
 refine size_short_i ?_
 simp (disch:=first|omega|simp<;>omega|fail)[size_short]
 refine cd (absT_ok a) ?_
 have hl:(rdT a).length≤a.length:=by unfold rdT; split <;> simp
 by_cases h1:(rdT a).length≤30
 ·have h1':((rdT a).length:Int)≤30:=by omega
  by_cases h2:b.length≤30
  ·have h2':(b.length:Int)≤30:=by omega
   simp (disch:=first|omega|simp<;>omega|fail)[h1',h2'] <;> exact out_b (by simp [shortB,h1,h2])
  ·have h2':¬ (b.length:Int)≤30:=by omega
   simp (disch:=first|omega|simp<;>omega|fail)[h1',h2'] <;> exact out_b (by simp [shortB,h1,h2])
 ·have h1':¬ ((rdT a).length:Int)≤30:=by omega
  simp (disch:=first|omega|simp<;>omega|fail)[h1'] <;> exact out_b (by simp [shortB,h1])
theorem den_pos {b:List UInt8} {w:Int} (h:rd b=some w) (hw:0 < w):rdT b=b:=by
 rw [rd_eq] at h
 split at h
 ·simp only [Option.some.injEq] at h
  cases hn:rdN b with
  | true=>rw [hn,if_pos rfl] at h; omega
  | false =>
   have:¬ b.headD 0=45:=by simpa [rdN] using hn
   unfold rdT
   rw [if_neg this]
 ·cases h
theorem numB_eq (x:Tx):numB x=((rdF x.1 x.2).isSome && (shortB x.1 && decide (x.2.length≤30))):=by
 unfold numB
 cases h:rdF x.1 x.2 with
 | none=>simp
 | some f =>
  have hb:rdT x.2=x.2:=by
   unfold rdF at h
   cases ha:rd x.1 with
   | none=>simp [ha] at h
   | some z =>
    cases hb:rd x.2 with
    | none=>simp [ha,hb] at h
    | some w =>
     simp only [ha,hb] at h
     split at h
     ·rename_i hc
      exact den_pos hb hc.1
     ·cases h
  simp [shortB,hb]
def sz4 (x:Tx):Bool:=shortB x.1 && decide (x.2.length≤30)
def szGo:List Tx→Int
 | []=>0
 | x :: q=>cond (rdF x.1 x.2).isSome (cond (sz4 x) (szGo q) 4) 2
theorem szGo_zero:∀ q:List Tx,decide (szGo q=0)=q.all numB
 | []=>rfl
 | x :: q=>by
  rw [List.all_cons,numB_eq x]
  cases h1:(rdF x.1 x.2).isSome with
  | false=>simp only [szGo,h1,cond_false,Bool.false_and]; rfl
  | true =>
   cases h2:sz4 x with
   | false=>simp only [szGo,h1,h2,cond_true,cond_false]; rw [show (shortB x.1 && decide (x.2.length≤30))=false from h2]; rfl
   | true =>
    simp only [szGo,h1,h2,cond_true]
    rw [show (shortB x.1 && decide (x.2.length≤30))=true from h2]
    simpa using szGo_zero q
theorem sizec_loop {s:List Tx} (hN:s.length < 1000000000) (hl:∀ x ∈ s,x.1.length < 1000000000∧x.2.length < 1000000000) (k:KL):∀ (q a:List Tx),a++q=s→(szGo q=0→k (.exit 0) [] [(0,.none)])→(szGo q≠0→∀ h,k .ret [I (szGo q)] h) →
  lp (size_check_l0 (CX Y) (lstm ratC s) (I s.length)) [0] [(0,.none)] [I a.length] [(0,.none)] k
 | []=>by
  intro a ha h0 h1
  simp at ha
  subst ha
  refine lp_in ?_
  simp (disch:=first|omega|simp<;>omega|fail)[size_check_l0]
  exact h0 rfl
 | x :: q=>by
  intro a ha h0 h1
  have hal:a.length < s.length:=by subst ha; simp
  have hx:nth ([],[]) s a.length=x:=by subst ha; simp
  have hxl:=hl x (by subst ha; simp)
  have e1:=fun h:Hp=>ixm_nth ratC ratC_len s h (k:=.i64) (i:=(a.length:Int)) (by omega) (by omega)
  have e2:=fun h:Hp=>ldm_nth ratC ratC_len ([],[]) s h hal
  simp only [hx,Int.toNat_natCast] at e1 e2
  have ih:=sizec_loop hN hl k q (a++[x]) (by simpa using ha)
  refine lp_in ?_
  simp (disch:=first|omega|simp<;>omega|fail)[size_check_l0,e1,e2,ratC]
  refine cd (checkF_ok x.1 x.2 hxl.1 hxl.2) ?_
  cases g3:(rdF x.1 x.2).isSome with
  | false =>
   simp only [szGo,g3,cond_false] at h1
   simp (disch:=first|omega|simp<;>omega|fail)[g3]
   exact h1 (by decide) _
  | true =>
   simp (disch:=first|omega|simp<;>omega|fail)[g3]
   refine cd (shortP_ok x.1 x.2 hxl.1 hxl.2) ?_
   cases g1:sz4 x with
   | false =>
    simp only [szGo,g3,g1,cond_true,cond_false] at h1
    rw [show (shortB x.1 && decide (x.2.length≤30))=false from g1]
    simp (disch:=first|omega|simp<;>omega|fail)[]
    exact h1 (by decide) _
   | true =>
    simp only [szGo,g3,g1,cond_true] at h0 h1
    have:=ih h0 h1
    rw [show (shortB x.1 && decide (x.2.length≤30))=true from g1]
    simp (disch:=first|omega|simp<;>omega|fail)[clean,offSs,offS,offH,notIn,resetGo]
    simpa using this
def scB (n:Nat) (s:List Tx):Int:=if s.length=n then szGo s else 5
theorem sizec_ok {p:List Int} {s:List Tx} (hl:∀ x ∈ s,x.1.length < 1000000000∧x.2.length < 1000000000) (hs:s.length < 1000000000):CP Y F.size_check [lst di p,lstm ratC s] (I (scB p.length s)):=by
 have lp':lenV (lst di p)=some (I p.length):=rfl
 have ls':lenV (lstm ratC s)=some (I s.length):=rfl
 refine size_check_i ?_
 by_cases h1:s.length=p.length
 ·have h1':((s.length:Int)=(p.length:Int))=True:=eq_true (by omega)
  have e:scB p.length s=szGo s:=if_pos h1
  rw [e]
  simp (disch:=first|omega|simp<;>omega|fail)[size_check,lp',ls',h1']
  refine lo (sizec_loop hs hl _ s [] rfl (fun g=>?_) (fun g h=>?_))
  ·simp only [exK_exit]
   exact out_i g.symm
  ·simp only [exK_ret2,exK_ret]
   exact out_i rfl
 ·have h1':¬ ((s.length:Int)=(p.length:Int)):=by omega
  have e:scB p.length s=5:=if_neg h1
  rw [e]
  simp (disch:=first|omega|simp<;>omega|fail)[size_check,lp',ls',h1'] <;> exact out_i rfl
def siB (p:List Int) (s:List Tx):Int:=if pcB p=0 then scB p.length s else pcB p
theorem sizeC_ok {p:List Int} {s:List Tx} (hp:p.length < 1000000000) (hl:∀ x ∈ s,x.1.length < 1000000000∧x.2.length < 1000000000) (hs:s.length < 1000000000):CP Y F.size_Check [lst di p,lstm ratC s] (I (siB p s)):=by
 refine size_Check_i ?_
 simp (disch:=first|omega|simp<;>omega|fail)[size_Check]
 refine cd (primeCheck_ok hp) ?_
 by_cases h:pcB p=0
 ·have e:siB p s=scB p.length s:=if_pos h
  rw [e]
  simp (disch:=first|omega|simp<;>omega|fail)[h]
  refine cd (sizec_ok hl hs) ?_
  simp (disch:=first|omega|simp<;>omega|fail)[] <;> exact out_i rfl
 ·have e:siB p s=pcB p:=if_neg h
  rw [e]
  simp (disch:=first|omega|simp<;>omega|fail)[h] <;> exact out_i rfl
theorem siB_zero {p:List Int} {s:List Tx}:(decide (pcB p=0) && decide (siB p s=0))=sizeB p s:=by
 unfold sizeB
 rw [← pcB_zero]
 by_cases h:pcB p=0
 ·rw [show siB p s=scB p.length s from if_pos h]
  by_cases h1:s.length=p.length
  ·rw [show scB p.length s=szGo s from if_pos h1,szGo_zero]
   simp [h,h1]
  ·rw [show scB p.length s=5 from if_neg h1]
   simp [h,h1]
 ·simp [h]
theorem sizeRight_ok {p:List Int} {s:List Tx} (hp:p.length < 1000000000) (hl:∀ x ∈ s,x.1.length < 1000000000∧x.2.length < 1000000000) (hs:s.length < 1000000000):CP Y F.schismalaw55_sizeRight [lst di p,lstm ratC s] (B (sizeB p s)):=by
 refine schismalaw55_sizeRight_i ?_
 rw [← siB_zero]
 simp (disch:=first|omega|simp<;>omega|fail)[schismalaw55_sizeRight]
 refine cd (primeCheck_ok hp) ?_
 by_cases h:pcB p=0
 ·simp (disch:=first|omega|simp<;>omega|fail)[h]
  refine cd (sizeC_ok hp hl hs) ?_
  simp (disch:=first|omega|simp<;>omega|fail)[] <;> exact out_b (by simp [h])
 ·simp (disch:=first|omega|simp<;>omega|fail)[h] <;> exact out_b (by simp)
def longB (x:Tx):Bool:=decide (40 < x.1.length) || decide (40 < x.2.length)
theorem shortF_ok (x:Tx):CP Y F.schismalaw55_short_F1 [.agg [S x.1,S x.2]] (B (longB x)):=by
 refine schismalaw55_short_F1_i ?_
 by_cases h1:40 < x.1.length
 ·have h1':(40:Int) < (x.1.length:Int):=by omega
  simp (disch:=first|omega|simp<;>omega|fail)[schismalaw55_short_F1,h1'] <;> exact out_b (by simp [longB,h1])
 ·have h1':¬ (40:Int) < (x.1.length:Int):=by omega
  by_cases h2:40 < x.2.length
  ·have h2':(40:Int) < (x.2.length:Int):=by omega
   simp (disch:=first|omega|simp<;>omega|fail)[schismalaw55_short_F1,h1',h2'] <;> exact out_b (by simp [longB,h1,h2])
  ·have h2':¬ (40:Int) < (x.2.length:Int):=by omega
   simp (disch:=first|omega|simp<;>omega|fail)[schismalaw55_short_F1,h1',h2'] <;> exact out_b (by simp [longB,h1,h2])
theorem idxR_loop (l:List Tx) (hN:l.length < 1000000) (k:KL):∀ (q a:List Tx),a++q=l →
  (idx longB q = -1→k (.exit 0) [] [])→(∀ i:Nat,idx longB q=i→k .ret [I (a.length+i:Nat)] []) →
  lp (slices_IndexFunc_api_Rational_api_Rational_l0 (CX Y) (lstm ratC l) (.fn F.schismalaw55_short_F1 [] []) (I l.length)) [] [] [I a.length] [] k
 | [],a=>by
  intro ha h0 _
  simp at ha
  subst ha
  refine lp_in ?_
  simp (disch:=first|omega|simp<;>omega|fail)[slices_IndexFunc_api_Rational_api_Rational_l0]
  exact h0 rfl
 | x :: q,a=>by
  intro ha h0 h1
  have hal:a.length < l.length:=by subst ha; simp
  have e3:nth ([],[]) l a.length=x:=by subst ha; simp
  have e1:=ixm_nth ratC ratC_len l [] (k:=.i64) (i:=(a.length:Int)) (by omega) (by omega)
  have e2:=ldm_nth ratC ratC_len ([],[]) l [] hal
  rw [e3] at e2
  rw [Int.toNat_natCast] at e1
  refine lp_in ?_
  simp (disch:=first|omega|simp<;>omega|fail)[slices_IndexFunc_api_Rational_api_Rational_l0,e1,e2,ratC]
  refine cdf (fs:=[]) (args:=[.agg [S x.1,S x.2]]) (cs:=[]) (shortF_ok x) rfl ?_
  simp (disch:=first|omega|simp<;>omega|fail)[]
  refine br_in (fun h=>?_) (fun h=>?_) <;> try simp (disch:=first|omega|simp<;>omega|fail)[h]
  ·have e:idx longB (x :: q)=(0:Nat):=by simp [idx,List.findIdx?_cons,h]
   simpa using h1 0 e
  ·have:=idxR_loop l hN k q (a++[x]) (by simpa using ha) (fun e=>h0 ?_) (fun i e=>?_)
   ·simpa [Int.add_assoc] using this
   ·simp only [idx,List.findIdx?_cons,h,Bool.false_eq_true,if_false] at e ⊢
    cases hq:List.findIdx? longB q <;> simp [hq] at e ⊢
   ·have:=h1 (i+1) ?_
    ·simpa [Nat.add_assoc,Nat.add_comm 1 i] using this
    ·simp only [idx,List.findIdx?_cons,h,Bool.false_eq_true,if_false] at e ⊢
     cases hq:List.findIdx? longB q <;> simp [hq] at e ⊢
     exact e
theorem shortR_ok (l:List Tx) (hN:l.length < 1000000):CP Y F.schismalaw55_short [lstm ratC l] (B (!l.any longB)):=by
 refine schismalaw55_short_i ?_
 simp (disch:=first|omega|simp<;>omega|fail)[schismalaw55_short]
 refine cd (v:=B (l.any longB)) (slices_ContainsFunc_api_Rational_api_Rational_i ?_) ?_ ?_
 ·simp (disch:=first|omega|simp<;>omega|fail)[slices_ContainsFunc_api_Rational_api_Rational]
  refine cd (v:=I (idx longB l)) (slices_IndexFunc_api_Rational_api_Rational_i ?_) ?_ ?_
  ·have ls':lenV (lstm ratC l)=some (I l.length):=rfl
   simp (disch:=first|omega|simp<;>omega|fail)[slices_IndexFunc_api_Rational_api_Rational,ls']
   refine lo (idxR_loop l hN _ l [] rfl (fun e=>?_) (fun i e=>?_))
   ·simp [e]
   ·simp [e]
  ·simp (disch:=first|omega|simp<;>omega|fail)[]
   have:=idx_neg longB l
   have e:decide (0≤idx longB l)=l.any longB:=by rw [Bool.eq_iff_iff]; simpa using this
   rw [e]; exact out_bool ..
  ·simp [snaps,snap]
 ·simp (disch:=first|omega|simp<;>omega|fail)[]
 ·simp [snaps,snap]
theorem law_numbers_of (hkn:CP Y F.schismalaw55_known [] (B true)) (a b:List UInt8) (p:List Int) (s:List Tx):CP Y F.schismalaw55_CheckerNumbers [.agg [S a,S b],lst di p,lstm ratC s] (B true):=by
 refine schismalaw55_CheckerNumbers_i ?_
 have lp':lenV (lst di p)=some (I p.length):=rfl
 have ls':lenV (lstm ratC s)=some (I s.length):=rfl
 simp (disch:=first|omega|simp<;>omega|fail)[schismalaw55_CheckerNumbers]
 refine cd hkn ?_
 by_cases g1:(410:Int) < a.length
 ·simp (disch:=first|omega|simp<;>omega|fail)[g1]
  refine cd hkn ?_
  simp (disch:=first|omega|simp<;>omega|fail)[]
 by_cases g2:(410:Int) < b.length
 ·simp (disch:=first|omega|simp<;>omega|fail)[g1,g2]
  refine cd hkn ?_
  simp (disch:=first|omega|simp<;>omega|fail)[]
 by_cases g3:(9:Int) < p.length
 ·simp (disch:=first|omega|simp<;>omega|fail)[g1,g2,lp',g3]
  refine cd hkn ?_
  simp (disch:=first|omega|simp<;>omega|fail)[]
 by_cases g4:(8:Int) < s.length
 ·simp (disch:=first|omega|simp<;>omega|fail)[g1,g2,lp',ls',g3,g4]
  refine cd hkn ?_
  simp (disch:=first|omega|simp<;>omega|fail)[]
 simp (disch:=first|omega|simp<;>omega|fail)[g1,g2,lp',ls',g3,g4]
 refine cd (shortR_ok s (by omega)) ?_ (by simp [snaps,snap])
 cases g5:s.any longB with
 | true =>
  simp (disch:=first|omega|simp<;>omega|fail)[]
  refine cd hkn ?_
  simp (disch:=first|omega|simp<;>omega|fail)[]
 | false =>
  have hl:∀ x ∈ s,x.1.length≤40∧x.2.length≤40:=by
   intro x hx
   have:=List.any_eq_false.1 g5 x hx
   simp [longB] at this
   omega
  have hp:p.length < 1000000000:=by omega
  simp (disch:=first|omega|simp<;>omega|fail)[]
  refine cd (number_okF a b) ?_
  simp (disch:=first|omega|simp<;>omega|fail)[]
  refine cd (right03_ok a b (by omega) (by omega)) ?_
  simp (disch:=first|omega|simp<;>omega|fail)[]
  refine cd (primes_ok hp) ?_
  simp (disch:=first|omega|simp<;>omega|fail)[]
  refine cd (primeCheck_ok hp) ?_
  simp (disch:=first|omega|simp<;>omega|fail)[pcB_zero]
  refine cd (size_ok hp (fun x hx=>by have:=hl x hx; omega)) ?_
  simp (disch:=first|omega|simp<;>omega|fail)[]
  refine cd (sizeRight_ok hp (fun x hx=>by have:=hl x hx; omega) (by omega)) ?_
  simp (disch:=first|omega|simp<;>omega|fail)[]
end Go.Vm
