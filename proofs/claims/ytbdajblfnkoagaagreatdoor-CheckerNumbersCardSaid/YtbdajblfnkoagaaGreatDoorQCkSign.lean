/- Sign of the checker. -/
import Derived.Test.YtbdajblfnkoagaaGreatDoorQCkSize
set_option linter.unusedVariables false
set_option linter.unusedSimpArgs false
namespace Go.Vm
open Go Go.Am Go.Big
abbrev Bd:=Int × Int × List UInt8
def bndC (x:Bd):List D:=[.int .i64 x.1,.int .i64 x.2.1,.str x.2.2]
theorem bndC_len (x:Bd):(bndC x).length=3:=rfl
def ownGo:Nat→List (Int × Nat)→List Int
 | _,[]=>[]
 | i,x :: q=>if x.1=0 then ownGo (i+1) q else (i:Int) :: ownGo (i+1) q
def bdB (b:Bd):Bool:=boundsB b.1 b.2.1 b.2.2
def atI (sg:Int) (b:Bd) (x:Int × Nat):Int:=if b.1≠2∧(decide (x.1 < 0)=decide (sg=1)) then (rd b.2.2).getD 0+1 else (rd b.2.2).getD 0
def signGo (p:List Int) (l:List (Int × Nat)) (sg bits:Int):List Int→List Bd→Int × Nat→Option (Int × Nat)
 | o :: own,b :: bs,sum=>if b.1=nth 0 p o.toNat∧b.2.1=bits∧bdB b=true then signGo p l sg bits own bs (fadd sum ((nth (0,0) l o.toNat).1 * atI sg b (nth (0,0) l o.toNat),(nth (0,0) l o.toNat).2 * 1)) else none
 | _,_,sum=>some sum
def signRes (p:List Int) (sg bits:Int) (bs:List Bd) (l:List (Int × Nat)) (own:List Int):Bool :=
 if sg=0 then decide (own.length=0) && decide (bits=0) && decide (bs.length=0)
 else if (sg≠1∧sg≠-1)∨own.length=0∨bs.length≠own.length then false
 else match signGo p l sg bits own bs (0,1) with
  | some sum=>decide (sum.1=0) || (decide (sum.1 < 0) == decide (sg < 0))
  | none=>false
def signB (p:List Int) (s:List Tx) (sg bits:Int) (bs:List Bd):Bool :=
 if sizeB p s=true then signRes p sg bits bs ((listO s).getD []) (ownGo 0 ((listO s).getD [])) else false
theorem fits_dec {z:Int} {k:Nat} (h:z.natAbs < 10 ^ k) (hk:k < 1000000):fits z:=by
 have:=len_dec h
 have h40:(2:Nat) ^ 40=1099511627776:=by decide
 unfold fits
 omega
theorem lenf_dec {n:Nat} {k:Nat} (h:n < 10 ^ k) (hk:k < 1000000):len n < 2 ^ 40:=by
 have:=len_dec h
 have h40:(2:Nat) ^ 40=1099511627776:=by decide
 omega
theorem mul_dec {a b i j:Nat} (ha:a < 10 ^ i) (hb:b < 10 ^ j):a * b < 10 ^ (i+j):=by
 rw [Nat.pow_add]
 exact Nat.mul_lt_mul'' ha hb
theorem fadd_dec {a b:Int × Nat} {M:Nat} (ha1:a.1.natAbs < 10 ^ M) (ha2:a.2 < 10 ^ M) (hb1:b.1.natAbs < 10 ^ 801) (hb2:b.2 < 10 ^ 401) (hM:801≤M):(fadd a b).1.natAbs < 10 ^ (M+802)∧(fadd a b).2 < 10 ^ (M+802):=by
 have hp:∀ i j:Nat,i≤j→(10:Nat) ^ i≤10 ^ j:=fun i j h=>Nat.pow_le_pow_right (by decide) h
 unfold fadd
 split
 ·have h1:=hp 801 M hM
  have h2:(10:Nat) ^ (M+802)=10 ^ M * 10 ^ 802:=Nat.pow_add ..
  have h3:2≤(10:Nat) ^ 802:=Nat.le_trans (by decide:2≤10 ^ 1) (hp 1 802 (by omega))
  have h4:=Nat.mul_le_mul_left (10 ^ M) h3
  simp only
  constructor <;> omega
 ·have h1:=mul_dec ha1 hb2
  have h2:=mul_dec hb1 ha2
  have h3:=mul_dec ha2 hb2
  have e1:(a.1 * (b.2:Int)).natAbs=a.1.natAbs * b.2:=by rw [Int.natAbs_mul,Int.natAbs_natCast]
  have e2:(b.1 * (a.2:Int)).natAbs=b.1.natAbs * a.2:=by rw [Int.natAbs_mul,Int.natAbs_natCast]
  have h4:=hp (M+401) (M+801) (by omega)
  have h5:(10:Nat) ^ (M+802)=10 ^ (M+801) * 10:=Nat.pow_succ ..
  rw [Nat.add_comm 801 M] at h2
  simp only
  constructor
  ·have:=Int.natAbs_add_le (a.1 * (b.2:Int)) (b.1 * (a.2:Int))
   omega
  ·omega
theorem rdF_dec {a b:List UInt8} {f:Int × Nat} (h:rdF a b=some f):f.1.natAbs < 10 ^ 400∧f.2 < 10 ^ 400:=by
 unfold rdF at h
 cases h1:rd a with
 | none=>rw [h1] at h; cases h
 | some n =>
  cases h2:rd b with
  | none=>rw [h1,h2] at h; cases h
  | some d =>
   rw [h1,h2] at h
   simp only at h
   split at h
   ·simp only [Option.some.injEq] at h
    subst h
    exact ⟨rd_bound h1,rd_bound h2⟩
   ·cases h
theorem listO_dec:∀ {s:List Tx} {l:List (Int × Nat)},listO s=some l→∀ f ∈ l,f.1.natAbs < 10 ^ 400∧f.2 < 10 ^ 400
 | [],l,h=>by simp only [listO,Option.some.injEq] at h; subst h; intro f hf; cases hf
 | x :: q,l,h=>by
  simp only [listO] at h
  cases h1:rdF x.1 x.2 with
  | none=>rw [h1] at h; cases h
  | some f =>
   cases h2:listO q with
   | none=>rw [h1,h2] at h; cases h
   | some m =>
    rw [h1,h2] at h
    simp only [Option.some.injEq] at h
    subst h
    intro g hg
    rcases List.mem_cons.1 hg with rfl | hg
    ·exact rdF_dec h1
    ·exact listO_dec h2 g hg
theorem bdB_rd {b:Bd} (h:bdB b=true):∃ z:Nat,rd b.2.2=some (z:Int)∧z < 10 ^ 400:=by
 unfold bdB boundsB at h
 cases hr:rd b.2.2 with
 | none=>rw [hr] at h; cases h
 | some z =>
  rw [hr] at h
  simp only [Bool.and_eq_true,decide_eq_true_eq] at h
  have:=rd_bound hr
  exact ⟨z.toNat,by congr 1; omega,by omega⟩
theorem ownGo_len:∀ (l:List (Int × Nat)) (i:Nat),(ownGo i l).length≤l.length
 | [],i=>by simp [ownGo]
 | x :: q,i=>by
  have ih:=ownGo_len q (i+1)
  simp only [ownGo]
  split
  ·simp; omega
  ·simp; omega
theorem ownGo_mem:∀ (l:List (Int × Nat)) (i:Nat),∀ o ∈ ownGo i l,(i:Int)≤o∧o < (i+l.length:Nat)
 | [],i,o,h=>by simp [ownGo] at h
 | x :: q,i,o,h=>by
  have ih:=ownGo_mem q (i+1) o
  simp only [ownGo] at h
  split at h
  ·have:=ih h; simp at this ⊢; omega
  ·rcases List.mem_cons.1 h with rfl | h
   ·simp; omega
   ·have:=ih h; simp at this ⊢; omega
def snA:Acc:=⟨2,0,1,.none⟩
def snH (c:Nat × Bk) (own:List Int):Hp:=[c,(0,.none),snA.b own.length (own.map di),(0,.none),(0,.none),(0,.none),(0,.none)]
theorem own_loop (c:Nat × Bk) (hc:offB [1] c.2=true) {l:List (Int × Nat)} (hN:l.length < 1000000000) (k:KL) (h0:Hp) (hh:h0=[c,(0,.none),(0,.none),(0,.none),(0,.none),(0,.none),(0,.none)]):∀ (q a:List (Int × Nat)) (d:List Int),a++q=l→d.length≤a.length →
  k (.exit 0) [snA.v (d++ownGo a.length q).length ((d++ownGo a.length q).map di)] (snH c (d++ownGo a.length q)) →
  lp (checker_Sign_l0 (CX Y) (lstm frC l) (I l.length)) [1] h0 [snA.v d.length (d.map di),I a.length] (snH c d) k
 | []=>by
  intro a d ha hd hk
  simp at ha
  subst ha
  refine lp_in ?_
  simp (disch:=first|omega|simp<;>omega|fail)[checker_Sign_l0]
  simpa [ownGo] using hk
 | x :: q=>by
  intro a d ha hd hk
  have hal:a.length < l.length:=by subst ha; simp
  have hx:nth (0,0) l a.length=x:=by subst ha; simp
  have e1:=fun h:Hp=>ixm_nth frC frC_len l h (k:=.i64) (i:=(a.length:Int)) (by omega) (by omega)
  have e2:=fun h:Hp=>ldm_nth frC frC_len (0,0) l h hal
  simp only [hx,Int.toNat_natCast,frC_map] at e1 e2
  have ih:=own_loop c hc hN k h0 hh q (a++[x])
  have hoS:∀ L c,offS [1] (snA.v L c)=true:=fun L c=>offS_acc _ _ _ _ rfl
  have hoB:∀ L c,offB [1] (snA.b L c).2=true:=fun L c=>offB_acc _ _ _ _ rfl
  refine lp_in ?_
  subst hh
  simp (disch:=first|omega|simp<;>omega|fail)[checker_Sign_l0]
  refine jo_in ?_
  simp (disch:=first|omega|simp<;>omega|fail)[e1,e2,snH,frV3,frL]
  refine cd (zero_ok x.1 x.2) ?_
  simp only [ownGo] at hk
  by_cases hz:x.1=0
  ·rw [if_pos hz] at hk
   simp (disch:=first|omega|simp<;>omega|fail)[hz]
   refine jo_in ?_
   have:=ih d (by simpa using ha) (by simp; omega) (by simpa using hk)
   simp (disch:=first|omega|simp<;>omega|fail)[clean,offSs,hoS,offS_int,offH_cons,hoB,offH,offB_none,hc,reset_cons,reset_end,notIn_nil,notIn_cons,beq_lit]
   simpa [snA,snH] using this
  ·rw [if_neg hz] at hk
   simp (disch:=first|omega|simp<;>omega|fail)[hz]
   refine jo_in ?_
   have:=ih (d++[(a.length:Int)]) (by simpa using ha) (by simp; omega) (by simpa using hk)
   have hli:∀ H:Hp,lisR 1 [D.int IntKind.i64 0] [(0,I (a.length:Int))] H=some ([di a.length],H):=fun H=>by
    simp [lisR,repl,toDs,toD,di]
   simp (disch:=first|omega|simp<;>omega|fail)[hli]
   refine acc_app snA (k:=1) (cs:=[di a.length]) (by omega) (by rfl) (by simp [snA]) rfl rfl (by simp) (by omega) (by simp [snA]) ?_
   simp (disch:=first|omega|simp<;>omega|fail)[show snA.s=2 from rfl,clean,offSs,hoS,offS_int,offH_cons,hoB,offH,offB_none,hc,reset_cons,reset_end,notIn_nil,notIn_cons,beq_lit]
   simpa [snA,snH,Acc.v,Acc.b] using this
def sgH (cv:List V) (own:List Int) (sum:Int × Nat):Hp:=[(1,.vars cv),(0,.none),(1,.data 1 (own.map di) false false),(1,.vars (frL sum.1 sum.2)),(0,.none),(0,.none),(0,.none)]
theorem sign_loop {p:List Int} {l:List (Int × Nat)} {sg bits:Int} {bs:List Bd} {own:List Int} (hN:bs.length < 1000) (hob:bs.length=own.length) (ho:∀ o ∈ own,0≤o∧o < l.length) (hlp:l.length=p.length) (hpl:p.length < 1000) (hl:∀ f ∈ l,f.1.natAbs < 10 ^ 400∧f.2 < 10 ^ 400) (k:KL) (c2:V) (hc2:offS [4,5,6] c2=true)
  (h0:Hp) (hh:h0=sgH [I sg,I bits,c2] own (0,1)):∀ (q a:List Bd) (oq oa:List Int) (sum:Int × Nat),a++q=bs→oa++oq=own→oa.length=a.length→sum.1.natAbs < 10 ^ (801+802 * a.length)→sum.2 < 10 ^ (801+802 * a.length) →
  (∀ r,signGo p l sg bits oq q sum=some r→k (.exit 2) [] (sgH [I sg,I bits,c2] own r))→(signGo p l sg bits oq q sum=none→∀ h,k .ret [B false] h) →
  lp (checker_Sign_l1 (CX Y) (lst di p) (.ptr 0 1 0 3) (lstm frC l) (.ref 2 1 0 own.length own.length own.length) (.ptr 3 1 0 3) (lstm bndC bs) (I bs.length)) [4,5,6] h0 [I a.length] (sgH [I sg,I bits,c2] own sum) k
 | []=>by
  intro a oq oa sum ha hoa hla hs1 hs2 h1 h2
  simp at ha
  subst ha
  refine lp_in ?_
  simp (disch:=first|omega|simp<;>omega|fail)[checker_Sign_l1]
  refine h1 sum ?_
  cases oq <;> rfl
 | b :: q=>by
  intro a oq oa sum ha hoa hla hs1 hs2 h1 h2
  cases oq with
  | nil =>
   exfalso
   have e1:=congrArg List.length ha
   have e2:=congrArg List.length hoa
   simp at e1 e2
   omega
  | cons o oq =>
  have hal:a.length < bs.length:=by subst ha; simp
  have halo:a.length < own.length:=by omega
  have hb:nth (0,0,[]) bs a.length=b:=by subst ha; simp
  have hno:nth 0 own a.length=o:=by subst hoa; rw [← hla]; simp
  have hoo:=ho o (by subst hoa; simp)
  have e1:=fun h:Hp=>ixm_nth bndC bndC_len bs h (k:=.i64) (i:=(a.length:Int)) (by omega) (by omega)
  have e2:=fun h:Hp=>ldm_nth bndC bndC_len (0,0,[]) bs h hal
  simp only [hb,Int.toNat_natCast] at e1 e2
  have eO:∀ (x y:Nat × Bk) (r:Hp),ixV (x :: y :: (1,.data 1 (own.map di) false false) :: r) 1 (.ref 2 1 0 own.length own.length own.length) (.d (.int .i64 (a.length:Int)))=some (.ptr 2 1 a.length own.length):=fun x y r=>ixB rfl rfl halo _
  have eOl:∀ (x y:Nat × Bk) (r:Hp),ld1 (x :: y :: (1,.data 1 (own.map di) false false) :: r) (.ptr 2 1 a.length own.length)=some (.d (di (nth 0 own a.length))):=fun x y r=>ldB 0 rfl rfl halo
  simp only [hno] at eOl
  have f1:=fun h:Hp=>ixm_nth frC frC_len l h (k:=.i64) (i:=o) (by omega) (by omega)
  have f2:=fun h:Hp=>ldm_nth frC frC_len (0,0) l h (j:=o.toNat) (by omega)
  obtain ⟨x,hx⟩:∃ x,nth (0,0) l o.toNat=x:=⟨_,rfl⟩
  have hxl:=hl x (by rw [← hx]; exact nth_mem (by omega))
  simp only [hx,frC_map] at f2
  simp only [signGo,hx] at h1 h2
  obtain ⟨pv,hpv⟩:∃ pv,nth 0 p o.toNat=pv:=⟨_,rfl⟩
  rw [hpv] at h1 h2
  have hbo:=bounds_ok b.1 b.2.1 b.2.2
  have ih:=sign_loop hN hob ho hlp hpl hl k c2 hc2 h0 hh q (a++[b]) oq (oa++[o])
  refine lp_in ?_
  subst hh
  by_cases g1:b.1=pv
  rotate_left
  ·have:=h2 (by rw [if_neg (fun h=>g1 h.1)])
   simp (disch:=first|omega|simp<;>omega|fail)[checker_Sign_l1,e1,e2,bndC,sgH,eO,eOl,hpv,g1]
   exact this _
  by_cases g2:b.2.1=bits
  rotate_left
  ·have:=h2 (by rw [if_neg (fun h=>g2 h.2.1)])
   simp (disch:=first|omega|simp<;>omega|fail)[checker_Sign_l1,e1,e2,bndC,sgH,eO,eOl,hpv,g1,g2]
   exact this _
  have hg1:=eq_true g1
  have hg2:=eq_true g2
  simp (disch:=first|omega|simp<;>omega|fail)[checker_Sign_l1,e1,e2,bndC,sgH,eO,eOl,hpv,hg1,hg2]
  refine cd hbo ?_
  by_cases g3:bdB b=true
  rotate_left
  ·have:=h2 (by rw [if_neg (fun h=>g3 h.2.2)])
   have g3':¬ boundsB b.1 b.2.1 b.2.2=true:=g3
   simp (disch:=first|omega|simp<;>omega|fail)[g3']
   exact this _
  have g3':boundsB b.1 b.2.1 b.2.2=true:=g3
  rw [if_pos ⟨g1,g2,g3⟩] at h1 h2
  obtain ⟨z,hz,hzb⟩:=bdB_rd g3
  have hrd:=read_ok b.2.2
  rw [hz] at hrd
  have hiz:intV (z:Int)=.agg [.d (.bool false),.d (natD z)]:=intV_eq (by simp) (by simp)
  have hrd':rdV (some (z:Int))=.tup [.agg [.d (.bool false),.d (natD z)],B true]:=by simp [rdV,hiz]
  rw [hrd'] at hrd
  have hat:atI sg b x=if b.1≠2∧(decide (x.1 < 0)=decide (sg=1)) then (z:Int)+1 else (z:Int):=by simp [atI,hz]
  have h400:(10:Nat) ^ 400+1≤10 ^ 401:=by set_option exponentiation.threshold 1000 in rw [Nat.pow_succ]; have:=Nat.pow_pos (a:=10) (n:=400) (by decide); omega
  have tail:∀ zt:Nat,(zt:Int)=atI sg b x→zt < 10 ^ 401→(
    bnd (ldA ((1,.vars [I sg,I bits,c2]) :: (0,.none) :: (1,.data 1 (own.map di) false false) :: (1,.vars [.d (.bool (decide (sum.1 < 0))),.d (natD sum.1.natAbs),.d (natD sum.2)]) :: (1,.vars [.d (.int .i64 b.1),.d (.int .i64 b.2.1),.d (.str b.2.2)]) :: (1,.vars [.d (.bool (decide (x.1 < 0))),.d (natD x.1.natAbs),.d (natD x.2)]) :: (1,.vars [.d (.bool false),.d (natD zt)]) :: []) 3 (.ptr 3 1 0 3)) fun v49 =>
    bnd (ldA ((1,.vars [I sg,I bits,c2]) :: (0,.none) :: (1,.data 1 (own.map di) false false) :: (1,.vars [.d (.bool (decide (sum.1 < 0))),.d (natD sum.1.natAbs),.d (natD sum.2)]) :: (1,.vars [.d (.int .i64 b.1),.d (.int .i64 b.2.1),.d (.str b.2.2)]) :: (1,.vars [.d (.bool (decide (x.1 < 0))),.d (natD x.1.natAbs),.d (natD x.2)]) :: (1,.vars [.d (.bool false),.d (natD zt)]) :: []) 3 (.ptr 5 1 0 3)) fun v50 =>
    bnd (ldA ((1,.vars [I sg,I bits,c2]) :: (0,.none) :: (1,.data 1 (own.map di) false false) :: (1,.vars [.d (.bool (decide (sum.1 < 0))),.d (natD sum.1.natAbs),.d (natD sum.2)]) :: (1,.vars [.d (.int .i64 b.1),.d (.int .i64 b.2.1),.d (.str b.2.2)]) :: (1,.vars [.d (.bool (decide (x.1 < 0))),.d (natD x.1.natAbs),.d (natD x.2)]) :: (1,.vars [.d (.bool false),.d (natD zt)]) :: []) 2 (.ptr 6 1 0 2)) fun v51 =>
    lisD 1 [.int .u32 0] [(0,(.d (.int .u32 1)))] ((1,.vars [I sg,I bits,c2]) :: (0,.none) :: (1,.data 1 (own.map di) false false) :: (1,.vars [.d (.bool (decide (sum.1 < 0))),.d (natD sum.1.natAbs),.d (natD sum.2)]) :: (1,.vars [.d (.int .i64 b.1),.d (.int .i64 b.2.1),.d (.str b.2.2)]) :: (1,.vars [.d (.bool (decide (x.1 < 0))),.d (natD x.1.natAbs),.d (natD x.2)]) :: (1,.vars [.d (.bool false),.d (natD zt)]) :: []) fun v52 h =>
    bnd (bld [(0,2),(2,1)] [.bool false,.pl (.slice none 0 0),.pl (.slice none 0 0)] [(0,v51),(1,v52)]) fun v53 =>
    cal (CX Y).p h (.fn F.checker_fraction_times [] []) [v50,v53] fun v54 h =>
    cal (CX Y).p h (.fn F.checker_fraction_add [] []) [v49,v54] fun v55 h =>
    stD h 3 (.ptr 3 1 0 3) v55 fun _ h =>
    bnd (biI .add (I a.length) (.d (.int .i64 1))) fun v57 =>
    lpK [4,5,6] (sgH [I sg,I bits,c2] own (0,1)) (fun l' h=>lp (checker_Sign_l1 (CX Y) (lst di p) (.ptr 0 1 0 3) (lstm frC l) (.ref 2 1 0 own.length own.length own.length) (.ptr 3 1 0 3) (lstm bndC bs) (I bs.length)) [4,5,6] (sgH [I sg,I bits,c2] own (0,1)) l' h k) k .normal [v57] h):=by
   intro zt hzt hztb
   rw [← hzt] at h1 h2
   have hfz:frV3 (zt:Int) 1=.agg [.d (.bool false),.d (natD zt),.d (.sl 1 [.int .u32 1])]:=by
    simp [frV3,frL]; rfl
   have b1:(x.1 * (zt:Int)).natAbs < 10 ^ 801:=by
    rw [Int.natAbs_mul,Int.natAbs_natCast]; have:=mul_dec hxl.1 hztb; rwa [show (400+401:Nat)=801 from rfl] at this
   have b2:x.2 * 1 < 10 ^ 401:=by set_option exponentiation.threshold 1000 in exact Nat.lt_of_le_of_lt (Nat.le_of_eq (Nat.mul_one x.2)) (Nat.lt_of_lt_of_le hxl.2 (Nat.le_of_succ_le h400))
   have t1:=frtimes_ok (x:=x.1) (y:=(zt:Int)) (c:=x.2) (d:=1) (fits_dec hxl.1 (by omega)) (fits_dec (z:=(zt:Int)) (by rw [Int.natAbs_natCast]; exact hztb) (by omega)) (lenf_dec hxl.2 (by omega)) (by have:=len_le (n:=1) (k:=1) (by decide); omega)
   rw [hfz] at t1
   have hM:801+802 * a.length < 900000:=by omega
   have hsd:=mul_dec hs1 b2
   have hsd2:=mul_dec b1 hs2
   have t2:=fradd_ok (x:=sum.1) (y:=x.1 * (zt:Int)) (c:=sum.2) (d:=x.2 * 1) (fits_dec hs1 (by omega)) (fits_dec b1 (by omega)) (fits_dec (z:=(sum.2:Int)) (by rw [Int.natAbs_natCast]; exact hs2) (by omega)) (fits_dec (z:=((x.2 * 1:Nat):Int)) (by rw [Int.natAbs_natCast]; exact b2) (by omega))
    (fits_dec (k:=801+802 * a.length+401) (by rw [Int.natAbs_mul,Int.natAbs_natCast]; exact hsd) (by omega)) (fits_dec (k:=801+(801+802 * a.length)) (by rw [Int.natAbs_mul,Int.natAbs_natCast]; exact hsd2) (by omega))
   have hfd:=fadd_dec (a:=sum) (b:=(x.1 * (zt:Int),x.2 * 1)) hs1 hs2 b1 b2 (by omega)
   obtain ⟨ns,hns⟩:∃ ns,fadd sum (x.1 * (zt:Int),x.2 * 1)=ns:=⟨_,rfl⟩
   rw [show fadd (sum.1,sum.2) (x.1 * (zt:Int),x.2 * 1)=ns from hns] at t2
   rw [hns] at hfd h1 h2
   have ih':=ih ns (by simpa using ha) (by simpa using hoa) (by simp [hla]) (by rw [List.length_append,List.length_singleton,Nat.mul_add,← Nat.add_assoc]; exact hfd.1) (by rw [List.length_append,List.length_singleton,Nat.mul_add,← Nat.add_assoc]; exact hfd.2) h1 h2
   clear ih h1 h2 hfd hs1 hs2 b1 b2 hsd hsd2
   generalize hW:x.1 * (zt:Int)=xz at *
   generalize hD:x.2 * 1=xd at *
   simp (disch:=first|omega|simp<;>omega|fail)[lis_one]
   refine cd (args:=[.agg [.d (.bool (decide (x.1 < 0))),.d (natD x.1.natAbs),.d (natD x.2)],.agg [.d (.bool false),.d (natD zt),.d (.sl 1 [.int .u32 1])]]) t1 ?_
   simp (disch:=first|omega|simp<;>omega|fail)[frV3,frL]
   refine cd (args:=[.agg [.d (.bool (decide (sum.1 < 0))),.d (natD sum.1.natAbs),.d (natD sum.2)],.agg [.d (.bool (decide (xz < 0))),.d (natD xz.natAbs),.d (natD xd)]]) t2 ?_
   simp (disch:=first|omega|simp<;>omega|fail)[frV3,frL,sgH,clean,offSs,hc2,offS_int,offH_cons,offH,offB_none,offB,reset_cons,reset_end,notIn_nil,notIn_cons,beq_lit]
   simpa [sgH,frL] using ih'
  simp (disch:=first|omega|simp<;>omega|fail)[g3',eO,eOl,f1,f2,frV3,frL]
  refine cd hrd ?_
  by_cases h2p:b.1=2
  ·have:=tail z (by rw [hat,if_neg (fun h=>h.1 h2p)]) (by omega)
   have h2t:=eq_true h2p
   simp (disch:=first|omega|simp<;>omega|fail)[lis_one] at this
   simp (disch:=first|omega|simp<;>omega|fail)[h2t]
   refine jo_in ?_
   simp (disch:=first|omega|simp<;>omega|fail)[h2t,lis_one]
   exact this
  ·by_cases hsg:decide (x.1 < 0)=decide (sg=1)
   ·have:=tail (z+1) (by rw [hat,if_pos ⟨h2p,hsg⟩]; simp) (by omega)
    have hsgb:(decide (x.1 < 0) == decide (sg=1))=true:=by simpa using hsg
    have hnum:=number_ok (n:=1) (by omega)
    have hadd:=add_ok (a:=(z:Int)) (b:=1) (fits_dec (z:=(z:Int)) (by rw [Int.natAbs_natCast]; exact hzb) (by omega)) (fits_small (by omega) (by omega))
    rw [hiz,show (z:Int)+1=((z+1:Nat):Int) by omega,intV_eq (z:=((z+1:Nat):Int)) (n:=z+1) (b:=false) (Int.natAbs_natCast _) (by simp; omega)] at hadd
    generalize z+1=z1 at *
    simp (disch:=first|omega|simp<;>omega|fail)[lis_one] at this
    simp (disch:=first|omega|simp<;>omega|fail)[h2p,hsgb]
    refine jo_in ?_
    simp (disch:=first|omega|simp<;>omega|fail)[h2p,hsgb]
    refine cd hnum ?_
    simp (disch:=first|omega|simp<;>omega|fail)[]
    refine cd hadd ?_
    simp (disch:=first|omega|simp<;>omega|fail)[lis_one]
    exact this
   ·have:=tail z (by rw [hat,if_neg (fun h=>hsg h.2)]) (by omega)
    have hsgb:(decide (x.1 < 0) == decide (sg=1))=false:=by simpa using hsg
    simp (disch:=first|omega|simp<;>omega|fail)[lis_one] at this
    simp (disch:=first|omega|simp<;>omega|fail)[h2p,hsgb]
    refine jo_in ?_
    simp (disch:=first|omega|simp<;>omega|fail)[h2p,hsgb,lis_one]
    exact this
theorem listO_some:∀ {s:List Tx},s.all numB=true→∃ l,listO s=some l
 | [],_=>⟨[],rfl⟩
 | x :: q,h=>by
  simp only [List.all_cons,Bool.and_eq_true,numB] at h
  obtain ⟨f,hf⟩:=Option.isSome_iff_exists.1 h.1.2
  obtain ⟨l,hl⟩:=listO_some (s:=q) h.2
  exact ⟨f :: l,by simp [listO,hf,hl]⟩
theorem sizeB_all {p:List Int} {s:List Tx} (h:sizeB p s=true):primesB p=true∧s.length=p.length∧s.all numB=true:=by
 simp only [sizeB,Bool.and_eq_true,decide_eq_true_eq] at h
 exact ⟨h.1.1,h.1.2,h.2⟩
theorem primesB_len {p:List Int} (h:primesB p=true):0 < p.length∧p.length≤6:=by
 simp only [primesB,Bool.and_eq_true,decide_eq_true_eq] at h
 exact ⟨h.1.2,h.2⟩
theorem accV_len (a:Acc) (L:Nat) (c:List D):lenV (a.v L c)=some (I L):=by cases L <;> rfl
theorem sign_ok {p:List Int} {s:List Tx} {sg bits:Int} {bs:List Bd} (hp:p.length < 1000000000) (hl:∀ x ∈ s,x.1.length < 1000000000000∧x.2.length < 1000000000000):CP Y F.checker_Sign [lst di p,lstm ratC s,.agg [I sg,I bits,lstm bndC bs]] (B (signB p s sg bits bs)):=by
 refine checker_Sign_i ?_
 unfold signB
 simp (disch:=first|omega|simp<;>omega|fail)[checker_Sign]
 refine cd (size_ok hp hl) ?_
 by_cases hsz:sizeB p s=true
 rotate_left
 ·rw [if_neg hsz]
  simp (disch:=first|omega|simp<;>omega|fail)[hsz]
 obtain ⟨z1,z2,z3⟩:=sizeB_all hsz
 obtain ⟨l,hlo⟩:=listO_some z3
 have hll:=listO_len hlo
 have hp6:=primesB_len z1
 have hdec:=listO_dec hlo
 have hls:=list_ok (s:=s) (by omega)
 rw [hlo] at hls
 rw [if_pos hsz,hlo]
 simp only [Option.getD_some]
 have hofc:offB [1] (Bk.vars [I sg,I bits,lstm bndC bs])=true:=rfl
 simp (disch:=first|omega|simp<;>omega|fail)[hsz]
 refine cd hls ?_
 simp (disch:=first|omega|simp<;>omega|fail)[]
 refine lo (own_loop (1,.vars [I sg,I bits,lstm bndC bs]) hofc (l:=l) (by omega) _ _ rfl l [] [] rfl (Nat.le_refl _) ?_)
 simp only [List.nil_append,List.length_nil]
 have hom:=ownGo_mem l 0
 have hol:=ownGo_len l 0
 generalize ownGo 0 l=own at *
 have hlv:=accV_len snA own.length (own.map di)
 unfold signRes
 by_cases g0:sg=0
 ·subst g0
  rw [if_pos rfl]
  by_cases k1:own.length=0
  ·have hk1:=eq_true k1
   by_cases k2:bits=0
   ·have hk2:=eq_true k2
    simp (disch:=first|omega|simp<;>omega|fail)[snH,hlv,hk1,hk2]
   ·simp (disch:=first|omega|simp<;>omega|fail)[snH,hlv,hk1,k2]
  ·simp (disch:=first|omega|simp<;>omega|fail)[snH,hlv,k1]
 ·rw [if_neg g0]
  have gc:(sg=1∨sg = -1)∨(sg≠1∧sg≠-1):=by omega
  rcases gc with gc | ⟨gc1,gc2⟩
  rotate_left
  ·rw [if_pos (.inl ⟨gc1,gc2⟩)]
   simp (disch:=first|omega|simp<;>omega|fail)[snH,g0,gc1,gc2]
  by_cases k1:own.length=0
  ·rw [if_pos (.inr (.inl k1))]
   have hk1:=eq_true k1
   rcases gc with rfl | rfl
   ·simp (disch:=first|omega|simp<;>omega|fail)[snH,hlv,hk1]
   ·simp (disch:=first|omega|simp<;>omega|fail)[snH,hlv,hk1]
  by_cases k2:bs.length=own.length
  rotate_left
  ·rw [if_pos (.inr (.inr k2))]
   rcases gc with rfl | rfl
   ·simp (disch:=first|omega|simp<;>omega|fail)[snH,hlv,k1,k2]
   ·simp (disch:=first|omega|simp<;>omega|fail)[snH,hlv,k1,k2]
  rw [if_neg (by omega)]
  have hk2:=eq_true k2
  obtain ⟨n,hn⟩:∃ n,own.length=n+1:=⟨own.length - 1,by omega⟩
  have hV:snA.v own.length (own.map di)=.ref 2 1 0 own.length own.length own.length:=by
   have:(own.map di).length=n+1:=by simp [hn]
   rw [hn]
   show V.ref 2 1 0 (n+1) (n+1) (own.map di).length=_
   rw [this]
  have hB:snA.b own.length (own.map di)=(1,.data 1 (own.map di) false false):=by
   rw [hn]; rfl
  have hx:sg=1∨sg = -1:=gc
  have hpown:∀ o ∈ own,0≤o∧o < l.length:=fun o ho=>by have:=hom o ho; omega
  have loop:=fun k=>sign_loop (p:=p) (l:=l) (sg:=sg) (bits:=bits) (bs:=bs) (own:=own) (by omega) k2 hpown (by omega) (by omega) hdec k (lstm bndC bs) rfl _ rfl bs [] own [] (0,1) rfl rfl rfl (Nat.pow_pos (by decide)) (by
   set_option exponentiation.threshold 1000 in
   have:(10:Nat) ^ 1≤10 ^ (801+802 * 0):=Nat.pow_le_pow_right (by decide) (by decide)
   exact Nat.lt_of_lt_of_le (by decide) this)
  have fin:∀ r:Int × Nat,signGo p l sg bits own bs (0,1)=some r→exK [((.exit 2),fun l47 h =>
      bnd (ldA h 3 (.ptr 3 1 0 3)) fun v48 =>
      cal (CX Y).p h (.fn F.checker_fraction_zero [] []) [v48] fun v49 h =>
      gd v49 false h (fun q=>bnd (faV 0 (.ptr 3 1 0 3)) fun v=>q v h) fun v50 h =>
      gd v49 false h (fun q=>bnd (faV 0 v50) fun v=>q v h) fun v51 h =>
      gd v49 false h (fun q=>bnd (ld1 h v51) fun v=>q v h) fun v52 h =>
      gd v49 false h (fun q=>bnd (faV 0 (.ptr 0 1 0 3)) fun v=>q v h) fun v53 h =>
      gd v49 false h (fun q=>bnd (ld1 h v53) fun v=>q v h) fun v54 h =>
      gd v49 false h (fun q=>bnd (biI .lss v54 (.d (.int .i64 0))) fun v=>q v h) fun v55 h =>
      gd v49 false h (fun q=>bnd (biB .eql v52 v55) fun v=>q v h) fun v56 h =>
      bnd (pickV v49 (.d (.bool true)) v56) fun v57 =>
      out (B (decide (r.1=0) || (decide (r.1 < 0) == decide (sg < 0)))) v57 h),
      (.ret,fun l47 h=>out (B (decide (r.1=0) || (decide (r.1 < 0) == decide (sg < 0)))) (ge l47 0) h)] (.exit 2) [] (sgH [I sg,I bits,lstm bndC bs] own r):=by
   intro r hr
   simp (disch:=first|omega|simp<;>omega|fail)[sgH,frL]
   refine cd (args:=[.agg [.d (.bool (decide (r.1 < 0))),.d (natD r.1.natAbs),.d (natD r.2)]]) (zero_ok r.1 r.2) ?_
   by_cases hz:r.1=0
   ·simp (disch:=first|omega|simp<;>omega|fail)[hz]
   ·simp (disch:=first|omega|simp<;>omega|fail)[hz]
  cases hr:signGo p l sg bits own bs (0,1) with
  | none =>
   rcases gc with rfl | rfl
   ·simp (disch:=first|omega|simp<;>omega|fail)[snH,hlv,k1,hk2]
    refine cd nothing_ok ?_
    simp (disch:=first|omega|simp<;>omega|fail)[frV3,frL,hV,hB]
    refine lo (loop _ (fun r hr2=>by rw [hr] at hr2; cases hr2) (fun _ h=>?_))
    simp (disch:=first|omega|simp<;>omega|fail)[]
   ·simp (disch:=first|omega|simp<;>omega|fail)[snH,hlv,k1,hk2]
    refine cd nothing_ok ?_
    simp (disch:=first|omega|simp<;>omega|fail)[frV3,frL,hV,hB]
    refine lo (loop _ (fun r hr2=>by rw [hr] at hr2; cases hr2) (fun _ h=>?_))
    simp (disch:=first|omega|simp<;>omega|fail)[]
  | some r =>
   have:=fin r hr
   rcases gc with rfl | rfl
   ·simp (disch:=first|omega|simp<;>omega|fail)[snH,hlv,k1,hk2]
    refine cd nothing_ok ?_
    simp (disch:=first|omega|simp<;>omega|fail)[frV3,frL,hV,hB]
    refine lo (loop _ (fun r' hr2=>?_) (fun hr2=>by rw [hr] at hr2; cases hr2))
    rw [hr] at hr2
    injection hr2 with hr2
    subst hr2
    exact this
   ·simp (disch:=first|omega|simp<;>omega|fail)[snH,hlv,k1,hk2]
    refine cd nothing_ok ?_
    simp (disch:=first|omega|simp<;>omega|fail)[frV3,frL,hV,hB]
    refine lo (loop _ (fun r' hr2=>?_) (fun hr2=>by rw [hr] at hr2; cases hr2))
    rw [hr] at hr2
    injection hr2 with hr2
    subst hr2
    exact this
end Go.Vm
