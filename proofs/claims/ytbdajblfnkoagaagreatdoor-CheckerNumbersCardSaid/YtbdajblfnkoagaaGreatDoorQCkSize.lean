/- Primes, Size, list of the checker. -/
import Derived.Test.YtbdajblfnkoagaaGreatDoorQCkBnd
import Derived.Test.YtbdajblfnkoagaaGreatDoorQCkForm
set_option linter.unusedVariables false
set_option linter.unusedSimpArgs false
namespace Go.Vm
open Go Go.Am Go.Big
def incGo:Option Int→List Int→Bool
 | _,[]=>true
 | prev,x :: q=>primeB x && (match prev with | some y=>decide (y < x) | none=>true) && incGo (some x) q
def primesB (p:List Int):Bool:=incGo none p && decide (0 < p.length) && decide (p.length≤6)
theorem primes_loop (k:KL):∀ (q a:List Int),(a++q).length < 1000000000→(incGo a.getLast? q=true→k (.exit 0) [] [])→(incGo a.getLast? q=false→k .ret [B false] []) →
  lp (checker_Primes_l0 (CX Y) (lst di (a++q)) (lst di (a++q)) (I (a++q).length)) [] [] [I a.length] [] k
 | []=>by
  intro a hN h0 h1
  refine lp_in ?_
  simp (disch:=first|omega|simp<;>omega|fail)[checker_Primes_l0]
  exact h0 rfl
 | x :: q=>by
  intro a hN h0 h1
  simp at hN
  have ih:=primes_loop k q (a++[x]) (by simp; omega)
  rw [List.getLast?_concat] at ih
  refine lp_in ?_
  simp (disch:=first|omega|simp<;>omega|fail)[checker_Primes_l0]
  refine cd (isPrime_ok x) ?_
  by_cases hp:primeB x=true
  ·rcases List.eq_nil_or_concat a with rfl | ⟨b,y,rfl⟩
   ·simp only [incGo,hp,List.getLast?_nil,Bool.true_and] at h0 h1
    simp (disch:=first|omega|simp<;>omega|fail)[hp]
    have:=ih h0 h1
    simpa using this
   ·rw [List.concat_eq_append] at *
    have hny:nth 0 (b++[y]++x :: q) b.length=y:=by rw [List.append_assoc]; simp
    rw [List.getLast?_concat] at h0 h1
    simp only [incGo,hp,Bool.true_and] at h0 h1
    have eI:∀ h:Hp,ixV h 1 (lst di (b++[y]++x :: q)) (.d (.int .i64 (b.length:Int)))=some (.dptr ((b++[y]++x :: q).map di) b.length):=fun h=>ix_lst di _ h rfl (by simp)
    have eL:∀ h:Hp,ld1 h (.dptr ((b++[y]++x :: q).map di) b.length)=some (.d (di y)):=fun h=>by
     have:=ld_row (b++[y]++x :: q) h (j:=b.length) (by simp)
     rw [hny] at this
     exact this
    have hA:b++[y]++[x]++q=b++[y]++x :: q:=by simp
    have hn:(b++[y]).length=b.length+1:=by simp
    have hn2:(b++[y]++[x]).length=b.length+1+1:=by simp
    rw [hA,hn2] at ih
    rw [hn] at hN ⊢
    generalize b++[y]++x :: q=A at *
    generalize b.length=m at *
    have e':((m+1:Nat):Int) - 1=(m:Int):=by omega
    have hl0:(0:Int) < ((m+1:Nat):Int):=by omega
    obtain ⟨m1,hm1⟩:∃ m1,m1=m+1:=⟨_,rfl⟩
    rw [← hm1] at e' hl0 ih ⊢
    by_cases hyx:y < x
    ·have g1:¬ x≤y:=by omega
     rw [show decide (y < x)=true by simpa using hyx,Bool.true_and] at h0 h1
     have:=ih h0 h1
     simp (disch:=first|omega|simp<;>omega|fail)[hp,e',hl0,eI,eL,g1]
     simpa using this
    ·have g1:x≤y:=by omega
     rw [show decide (y < x)=false by simpa using hyx,Bool.false_and] at h1
     simp (disch:=first|omega|simp<;>omega|fail)[hp,e',hl0,eI,eL,g1]
     simpa using h1
  ·have hpf:primeB x=false:=by simpa using hp
   simp only [incGo,hpf,Bool.false_and] at h1
   simp (disch:=first|omega|simp<;>omega|fail)[hpf]
   simpa using h1
theorem primes_ok {p:List Int} (hN:p.length < 1000000000):CP Y F.checker_Primes [lst di p] (B (primesB p)):=by
 refine checker_Primes_i ?_
 simp (disch:=first|omega|simp<;>omega|fail)[checker_Primes]
 refine lo (primes_loop _ p [] (by simpa using hN) (fun g=>?_) (fun g=>?_))
 ·simp only [List.getLast?_nil] at g
  by_cases h1:0 < p.length
  ·simp (disch:=first|omega|simp<;>omega|fail)[h1]
   exact out_b (by simp [primesB,g,h1]; omega)
  ·simp (disch:=first|omega|simp<;>omega|fail)[h1]
   exact out_b (by simp [primesB,g,h1])
 ·simp only [List.getLast?_nil] at g
  simp (disch:=first|omega|simp<;>omega|fail)[]
  exact out_b (by simp [primesB,g])
def shortB (s:List UInt8):Bool:=decide ((rdT s).length≤30)
theorem short_ok {s:List UInt8} (hs:s.length < 1000000000000):CP Y F.checker_short [S s] (B (shortB s)):=by
 refine checker_short_i ?_
 cases s with
 | nil =>
  simp (disch:=first|omega|simp<;>omega|fail)[checker_short]
  refine jo_to (l:=[I 0]) (h:=[]) (fun q=>?_) ?_
  ·simp (disch:=first|omega|simp<;>omega|fail)[]
  simp (disch:=first|omega|simp<;>omega|fail)[]
  exact out_b rfl
 | cons b t =>
  have hix:ixS (S (b :: t)) (.d (.int .i64 0))=some (.d (.int .u8 b.toNat)):=rfl
  by_cases h:b=45
  ·subst h
   have e:((45:UInt8).toNat:Int)=45:=rfl
   simp at hs
   simp (disch:=first|omega|simp<;>omega|fail)[checker_short,hix,e]
   refine jo_to (l:=[I t.length]) (h:=[]) (fun q=>?_) ?_
   ·simp (disch:=first|omega|simp<;>omega|fail)[]
   simp (disch:=first|omega|simp<;>omega|fail)[]
   exact out_b (by simp [shortB,rdT]; omega)
  ·have e:¬ (b.toNat:Int)=45:=fun g=>h (by apply UInt8.toNat.inj; simpa using (by omega:b.toNat=45))
   simp (disch:=first|omega|simp<;>omega|fail)[checker_short,hix,e]
   refine jo_to (l:=[I (t.length+1:Nat)]) (h:=[]) (fun q=>?_) ?_
   ·simp (disch:=first|omega|simp<;>omega|fail)[]
   simp (disch:=first|omega|simp<;>omega|fail)[]
   exact out_b (by simp [shortB,rdT,h]; omega)
abbrev Tx:=List UInt8 × List UInt8
def ratC (x:Tx):List D:=[.str x.1,.str x.2]
theorem ratC_len (x:Tx):(ratC x).length=2:=rfl
def numB (x:Tx):Bool:=shortB x.1 && shortB x.2 && (rdF x.1 x.2).isSome
def sizeB (p:List Int) (s:List Tx):Bool:=primesB p && decide (s.length=p.length) && s.all numB
theorem size_loop {s:List Tx} (hN:s.length < 1000000000) (hl:∀ x ∈ s,x.1.length < 1000000000000∧x.2.length < 1000000000000) (k:KL):∀ (q a:List Tx),a++q=s→(q.all numB=true→k (.exit 0) [] [(0,.none)])→(q.all numB=false→∀ h,k .ret [B false] h) →
  lp (checker_Size_l0 (CX Y) (lstm ratC s) (I s.length)) [0] [(0,.none)] [I a.length] [(0,.none)] k
 | []=>by
  intro a ha h0 h1
  simp at ha
  subst ha
  refine lp_in ?_
  simp (disch:=first|omega|simp<;>omega|fail)[checker_Size_l0]
  exact h0 rfl
 | x :: q=>by
  intro a ha h0 h1
  have hal:a.length < s.length:=by subst ha; simp
  have hx:nth ([],[]) s a.length=x:=by subst ha; simp
  have hxl:=hl x (by subst ha; simp)
  have e1:=fun h:Hp=>ixm_nth ratC ratC_len s h (k:=.i64) (i:=(a.length:Int)) (by omega) (by omega)
  have e2:=fun h:Hp=>ldm_nth ratC ratC_len ([],[]) s h hal
  simp only [hx,Int.toNat_natCast] at e1 e2
  have ih:=size_loop hN hl k q (a++[x]) (by simpa using ha)
  refine lp_in ?_
  simp (disch:=first|omega|simp<;>omega|fail)[checker_Size_l0,e1,e2,ratC]
  refine cd (short_ok hxl.1) ?_
  by_cases g1:shortB x.1=true
  rotate_left
  ·have:=h1 (by simp [numB,g1])
   simp (disch:=first|omega|simp<;>omega|fail)[g1]
   exact this _
  simp (disch:=first|omega|simp<;>omega|fail)[g1]
  refine cd (short_ok hxl.2) ?_
  by_cases g2:shortB x.2=true
  rotate_left
  ·have:=h1 (by simp [numB,g1,g2])
   simp (disch:=first|omega|simp<;>omega|fail)[g2]
   exact this _
  simp (disch:=first|omega|simp<;>omega|fail)[g2]
  refine cd (number_okF x.1 x.2) ?_
  by_cases g3:(rdF x.1 x.2).isSome=true
  rotate_left
  ·have:=h1 (by simp only [List.all_cons,numB,g1,g2,g3]; simp [g3])
   simp (disch:=first|omega|simp<;>omega|fail)[g3]
   exact this _
  have hx3:numB x=true:=by simp only [numB,g1,g2,g3]; rfl
  simp only [List.all_cons,hx3,Bool.true_and] at h0 h1
  have:=ih h0 h1
  simp (disch:=first|omega|simp<;>omega|fail)[g3,clean,offSs,offS,offH,notIn,resetGo]
  simpa using this
theorem size_ok {p:List Int} {s:List Tx} (hp:p.length < 1000000000) (hl:∀ x ∈ s,x.1.length < 1000000000000∧x.2.length < 1000000000000):CP Y F.checker_Size [lst di p,lstm ratC s] (B (sizeB p s)):=by
 refine checker_Size_i ?_
 simp (disch:=first|omega|simp<;>omega|fail)[checker_Size]
 refine cd (primes_ok hp) ?_
 by_cases h1:primesB p=true
 ·by_cases h2:s.length=p.length
  ·have h2':((s.length:Int)=(p.length:Int))=True:=eq_true (by omega)
   simp (disch:=first|omega|simp<;>omega|fail)[h1,h2']
   refine lo (size_loop (by omega) hl _ s [] rfl (fun g=>?_) (fun g h=>?_))
   ·simp (disch:=first|omega|simp<;>omega|fail)[]
    exact out_b (by simp only [sizeB,h1,h2,g]; simp)
   ·simp (disch:=first|omega|simp<;>omega|fail)[]
    exact out_b (by simp only [sizeB,g]; simp)
  ·simp (disch:=first|omega|simp<;>omega|fail)[h1,h2]
   exact out_b (by simp [sizeB,h2])
 ·simp (disch:=first|omega|simp<;>omega|fail)[h1]
  exact out_b (by simp [sizeB,h1])
def frC (x:Int × Nat):List D:=[.bool (decide (x.1 < 0)),natD x.1.natAbs,natD x.2]
theorem frC_len (x:Int × Nat):(frC x).length=3:=rfl
theorem frC_map (x:Int × Nat):V.agg ((frC x).map .d)=frV3 x.1 x.2:=rfl
def listO:List Tx→Option (List (Int × Nat))
 | []=>some []
 | x :: q=>match rdF x.1 x.2,listO q with
  | some f,some l=>some (f :: l)
  | _,_=>none
theorem listO_len:∀ {s:List Tx} {l:List (Int × Nat)},listO s=some l→l.length=s.length
 | [],l,h=>by simp only [listO,Option.some.injEq] at h; subst h; rfl
 | x :: q,l,h=>by
  simp only [listO] at h
  cases h1:rdF x.1 x.2 with
  | none=>rw [h1] at h; cases h
  | some f =>
   cases h2:listO q with
   | none=>rw [h1,h2] at h; cases h
   | some m =>
    rw [h1,h2] at h
    simp only [Option.some.injEq] at h
    subst h
    simp [listO_len h2]
def lsA:Acc:=⟨2,0,3,.none⟩
def lsH (L:Nat) (cells:List D):Hp:=[(0,.none),(0,.none),lsA.b L cells]
theorem list_loop {s:List Tx} (hN:s.length < 1000000000) (k:KL):∀ (q a:List Tx) (d:List (Int × Nat)),a++q=s→d.length=a.length →
  (∀ l,listO q=some l→k (.exit 0) [lsA.v s.length ((d++l).flatMap frC)] (lsH s.length ((d++l).flatMap frC)))→(listO q=none→∀ h,k .ret [.d (.pl (.slice none 0 0)),B false] h) →
  lp (checker_list_l0 (CX Y) (lstm ratC s) (I s.length)) [0,1] [(0,.none),(0,.none),(0,.none)] [lsA.v a.length (d.flatMap frC),I a.length] (lsH a.length (d.flatMap frC)) k
 | []=>by
  intro a d ha hd h0 h1
  simp at ha
  subst ha
  refine lp_in ?_
  simp (disch:=first|omega|simp<;>omega|fail)[checker_list_l0]
  simpa using h0 [] rfl
 | x :: q=>by
  intro a d ha hd h0 h1
  have hal:a.length < s.length:=by subst ha; simp
  have hx:nth ([],[]) s a.length=x:=by subst ha; simp
  have e1:=fun h:Hp=>ixm_nth ratC ratC_len s h (k:=.i64) (i:=(a.length:Int)) (by omega) (by omega)
  have e2:=fun h:Hp=>ldm_nth ratC ratC_len ([],[]) s h hal
  simp only [hx,Int.toNat_natCast] at e1 e2
  refine lp_in ?_
  simp (disch:=first|omega|simp<;>omega|fail)[checker_list_l0,e1,e2,ratC,lsH]
  refine cd (parts_ok x.1 x.2) ?_
  cases hf:rdF x.1 x.2 with
  | none =>
   have:=h1 (by simp [listO,hf])
   simp (disch:=first|omega|simp<;>omega|fail)[rdFV,frV3,frL]
   exact this _
  | some f =>
   have ih:=list_loop hN k q (a++[x]) (d++[f]) (by simpa using ha) (by simp [hd]) (fun l hl=>by simpa using h0 (f :: l) (by simp [listO,hf,hl])) (fun hl=>h1 (by simp [listO,hf,hl]))
   have hli:∀ H:Hp,lisR 1 [D.bool false,D.pl (Value.slice none 0 0),D.pl (Value.slice none 0 0)] [(0,V.agg [V.d (D.bool (decide (f.fst < 0))),V.d (natD f.fst.natAbs),V.d (natD f.snd)])] H=some (frC f,H):=fun H=>by
    simp [lisR,repl,toDs,toD,frC]
   simp (disch:=first|omega|simp<;>omega|fail)[rdFV,frV3,frL]
   rw [hli]
   simp (disch:=first|omega|simp<;>omega|fail)[]
   have hfl:=flat_len frC frC_len d
   refine acc_app lsA (k:=1) (cs:=frC f) (by omega) (by rfl) (by rw [hfl,hd]; rfl) rfl rfl (by simp) (by omega) (by simp [lsA]) ?_
   simp (disch:=first|omega|simp<;>omega|fail)[clean,offSs,offS,offH,notIn,resetGo,offB,lsA]
   simpa [lsA,lsH,Acc.v,Acc.b,offS,notIn,show Nat.beq 0 2=false from rfl,show Nat.beq 1 2=false from rfl] using ih
theorem list_ok {s:List Tx} (hN:s.length < 1000000000):CP Y F.checker_list [lstm ratC s] (match listO s with | some l=>.tup [lstm frC l,B true] | none=>.tup [.d (.sl 0 []),B false]):=by
 refine checker_list_i ?_
 simp (disch:=first|omega|simp<;>omega|fail)[checker_list]
 refine lo (list_loop hN _ s [] [] rfl rfl (fun l hl=>?_) (fun hl h=>?_))
 ·have hll:=listO_len hl
  rw [hl]
  simp (disch:=first|omega|simp<;>omega|fail)[]
  have hfl:=flat_len frC frC_len l
  obtain ⟨h',h1,_⟩:=acc_snap lsA (L:=s.length) (cells:=l.flatMap frC) (h:=lsH s.length (l.flatMap frC)) rfl (by rw [hfl,hll]; rfl)
  exact ⟨h',by simp [snap,snaps,h1,lstm,hll]⟩
 ·rw [hl]
  simp (disch:=first|omega|simp<;>omega|fail)[]
  exact out_sn (by simp [snap,snaps])
end Go.Vm
