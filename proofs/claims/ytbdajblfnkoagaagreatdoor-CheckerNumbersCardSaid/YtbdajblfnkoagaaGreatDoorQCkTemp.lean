/- Temperaments of the checker: determinant, full, Temperament. -/
import Derived.Test.YtbdajblfnkoagaaGreatDoorQCkDet
set_option linter.unusedVariables false
set_option linter.unusedSimpArgs false
namespace Go.Vm
open Go Go.Am Go.Big
theorem det_ok:∀ (m:List (List Int)) (cols:List Int) (n:Nat),(∀ r ∈ m,okRow r=true∧r.length=n)→(∀ c ∈ cols,0≤c∧c < (n:Int))→cols.length≤12→m.length≤12→CP Y F.checker_determinant [mat m,lst di cols] (intV (detI m cols))
 | [],cols,n,hm,hc,hl,hml=>by
  refine checker_determinant_i ?_
  simp (disch:=first|omega|simp<;>omega|fail)[checker_determinant]
  refine cd (number_ok (n:=1) (by omega)) ?_
  simp (disch:=first|omega|simp<;>omega|fail)[intV,intL]
  exact out_sn (by simp [snap,snaps,detI,intV,intL])
 | r :: m,cols,n,hm,hc,hl,hml=>by
  have hr:=hm r (by simp)
  simp at hml
  refine checker_determinant_i ?_
  simp (disch:=first|omega|simp<;>omega|fail)[checker_determinant]
  refine lo (det_loop hr.1 (by rw [hr.2]; exact hc) hl (by omega) (fun i hi=>det_ok m _ n (fun q hq=>hm q (by simp [hq])) (erase_ok hc i) (by rw [List.length_eraseIdx]; split <;> omega) (by omega))
   (fun i hi=>detI_bound m _ n (fun q hq=>hm q (by simp [hq])) (erase_ok hc i) (by rw [List.length_eraseIdx]; split <;> omega)) _ _ rfl cols.length 0 0 (.d (.pl (.slice none 0 0))) (by omega) (.inr ⟨rfl,rfl⟩) (by simp) fun xv' hx=>?_)
  have hok:=isN_ok hx
  simp only [Int.zero_add] at hx ⊢
  have e:detFrom r (detI m) cols cols.length 0=detI (r :: m) cols:=rfl
  rw [e] at hx ⊢
  generalize detI (r :: m) cols=d at *
  simp (disch:=first|omega|simp<;>omega|fail)[dtH,hok]
  refine out_sn ?_
  simp [snap,snaps,isN_snap hx,intV,intL,nat_natD]
def colsGo (set:Nat):Nat→Nat→List Int
 | 0,_=>[]
 | k+1,c=>if set / 2 ^ c % 2=1 then (c:Int) :: colsGo set k (c+1) else colsGo set k (c+1)
theorem colsGo_mem (set:Nat):∀ (k c:Nat),∀ x ∈ colsGo set k c,(c:Int)≤x∧x < ((c+k:Nat):Int)
 | 0,c,x,h=>by simp [colsGo] at h
 | k+1,c,x,h=>by
  have ih:=colsGo_mem set k (c+1) x
  simp only [colsGo] at h
  split at h
  ·rcases List.mem_cons.1 h with rfl | h
   ·omega
   ·have:=ih h; omega
  ·have:=ih h; omega
theorem colsGo_len (set:Nat):∀ (k c:Nat),(colsGo set k c).length≤k
 | 0,c=>by simp [colsGo]
 | k+1,c=>by
  have ih:=colsGo_len set k (c+1)
  simp only [colsGo]
  split
  ·simp; omega
  ·omega
def fullGo (m:List (List Int)) (n:Nat):Nat→Nat→Nat→Nat
 | 0,_,g=>g
 | k+1,set,g=>fullGo m n k (set+1) (if (colsGo set n 0).length=m.length then Nat.gcd g (detI m (colsGo set n 0)).natAbs else g)
def fullB (m:List (List Int)) (n:Nat):Bool:=decide (fullGo m n (2 ^ n) 0 0=1)
theorem and_one {a:Nat} (h:a < 9223372036854775808):biI .and (.d (.int .i64 a)) (.d (.int .i64 1))=some (.d (.int .i64 ((a % 2:Nat):Int))):=by
 have ea:(BitVec.ofInt 64 (a:Int)).toNat=a:=by simp [BitVec.toNat_ofInt]; omega
 have eb:(BitVec.ofInt 64 (1:Int)).toNat=1:=by decide
 have e:(BitVec.ofInt 64 (a:Int) &&& BitVec.ofInt 64 1).toNat=a % 2:=by rw [BitVec.toNat_and,ea,eb,Nat.and_one_is_mod]
 show ofVal (some (Value.int .i64 (IntKind.wrap .i64 ((BitVec.ofInt 64 (a:Int) &&& BitVec.ofInt 64 1).toNat:Int))))=_
 rw [e,wrap_i64' (by omega) (by omega)]
 rfl
def flA:Acc:=⟨0,0,1,.none⟩
theorem full_in {set n:Nat} (hs:set < 100000) (hn:n≤12) (k:KL) (h0:Hp) (hh:h0.length=1):∀ (r c:Nat) (d:List Int),c+r=n→d.length≤c →
  k (.exit 2) [flA.v (d++colsGo set r c).length ((d++colsGo set r c).map di)] [flA.b (d++colsGo set r c).length ((d++colsGo set r c).map di)] →
  lp (checker_full_l1 (CX Y) (I set) (I n)) [] h0 [flA.v d.length (d.map di),I c] [flA.b d.length (d.map di)] k
 | 0,c,d,hc,hd,hk=>by
  refine lp_in ?_
  simp (disch:=first|omega|simp<;>omega|fail)[checker_full_l1]
  simpa [colsGo] using hk
 | r+1,c,d,hc,hd,hk=>by
  have ih:=full_in hs hn k h0 hh r (c+1)
  have hsh:(set:Int) / 2 ^ c=((set / 2 ^ c:Nat):Int):=by simp
  have hlt:set / 2 ^ c < 9223372036854775808:=Nat.lt_of_le_of_lt (Nat.div_le_self _ _) (by omega)
  have ha:=and_one hlt
  simp only [colsGo] at hk
  obtain ⟨x,hx⟩:∃ x,set / 2 ^ c=x:=⟨_,rfl⟩
  rw [hx] at ha hsh hk
  refine lp_in ?_
  by_cases h1:x % 2=1
  ·rw [if_pos h1] at hk
   have h1':((x:Int) % 2=1)=True:=eq_true (by omega)
   have hli:∀ H:Hp,lisR 1 [D.int IntKind.i64 0] [(0,I (c:Int))] H=some ([di c],H):=fun H=>by
    simp [lisR,repl,toDs,toD,di]
   have:=ih (d++[(c:Int)]) (by omega) (by simp; omega) (by simpa using hk)
   simp (disch:=first|omega|simp<;>omega|fail)[checker_full_l1]
   refine jo_in ?_
   simp (disch:=first|omega|simp<;>omega|fail)[hsh,ha,h1']
   refine jo_in ?_
   simp (disch:=first|omega|simp<;>omega|fail)[h1',hli]
   refine acc_app flA (k:=1) (cs:=[di c]) (by omega) (by rfl) (by simp [flA]) rfl rfl (by simp) (by omega) (by simp [flA]) ?_
   simp (disch:=first|omega|simp<;>omega|fail)[show flA.s=0 from rfl,hh]
   simpa [flA,Acc.v,Acc.b] using this
  ·rw [if_neg h1] at hk
   have h1':((x:Int) % 2=1)=False:=eq_false (by omega)
   have:=ih d (by omega) (by omega) hk
   simp (disch:=first|omega|simp<;>omega|fail)[checker_full_l1]
   refine jo_in ?_
   simp (disch:=first|omega|simp<;>omega|fail)[hsh,ha,h1']
   refine jo_in ?_
   simp (disch:=first|omega|simp<;>omega|fail)[h1',hh]
   simpa using this
theorem detI_len {m:List (List Int)} {cols:List Int} {n:Nat} (hm:∀ r ∈ m,okRow r=true∧r.length=n) (hc:∀ c ∈ cols,0≤c∧c < (n:Int)) (hl:cols.length≤12) (hml:m.length≤12):len (detI m cols).natAbs≤132:=by
 have h:=detI_bound m cols n hm hc hl
 have h1:(100000000000:Nat) ^ m.length≤100000000000 ^ 12:=Nat.pow_le_pow_right (by decide) hml
 have h2:(100000000000:Nat) ^ 12 < 10 ^ 133:=by decide
 have h3:(100000000000:Nat) ^ 12 < W ^ 132:=by decide
 exact len_le (by omega)
theorem full_loop {m:List (List Int)} {n:Nat} (hm:∀ r ∈ m,okRow r=true∧r.length=n) (hn:n≤12) (hml:m.length≤12) (k:KL) (N:Nat) (hN:N < 100000):∀ (r set g:Nat) (gv:V),set+r=N→isN gv g→len g≤132 →
  (∀ gv',isN gv' (fullGo m n r set g)→k (.exit 0) [gv'] [(0,.none)]) →
  lp (checker_full_l0 (CX Y) (mat m) (I n) (I N)) [0] [(0,.none)] [gv,I set] [(0,.none)] k
 | 0,set,g,gv,hs,hg,hgl,hk=>by
  refine lp_in ?_
  simp (disch:=first|omega|simp<;>omega|fail)[checker_full_l0]
  exact hk gv hg
 | r+1,set,g,gv,hs,hg,hgl,hk=>by
  have ih:=full_loop hm hn hml k N hN r (set+1)
  have hcm:=colsGo_mem set n 0
  have hcl:=colsGo_len set n 0
  simp only [fullGo] at hk
  refine lp_in ?_
  simp (disch:=first|omega|simp<;>omega|fail)[checker_full_l0]
  refine jo_in ?_
  simp (disch:=first|omega|simp<;>omega|fail)[]
  refine lo (full_in (n:=n) (by omega) hn _ _ rfl n 0 [] (by omega) (Nat.le_refl _) ?_)
  simp only [List.nil_append]
  generalize colsGo set n 0=cols at *
  have hlv:=accV_len flA cols.length (cols.map di)
  have hc:∀ c ∈ cols,0≤c∧c < (n:Int):=fun c h=>by have:=hcm c h; omega
  have hoS:∀ L c,offS [0] (flA.v L c)=true∨True:=fun _ _=>.inr trivial
  have hgo:=isN_off hg [0]
  by_cases h:cols.length=m.length
  ·have h':=eq_true h
   rw [if_pos h] at hk
   have hd:=det_ok m cols n hm hc (by omega) hml
   have hdl:=detI_len hm hc (by omega) hml
   obtain ⟨d,hdd⟩:∃ d,detI m cols=d:=⟨_,rfl⟩
   rw [hdd] at hd hdl hk
   have hco:=common_ok (a:=g) (b:=d.natAbs) (by omega) (by omega)
   have hgc:len (Nat.gcd g d.natAbs)≤132:=by
    rcases Nat.eq_zero_or_pos g with e | e
    ·subst e; rw [Nat.gcd_zero_left]; exact hdl
    ·exact Nat.le_trans (len_mono (Nat.gcd_le_left _ e)) hgl
   have:=ih _ (nat (Nat.gcd g d.natAbs)) (by omega) (.inl rfl) hgc hk
   obtain ⟨h1,e1,e2⟩:=acc_snap flA (L:=cols.length) (cells:=cols.map di) (h:=[flA.b cols.length (cols.map di)]) rfl (by simp [flA])
   have hoff:clean [0] [nat (Nat.gcd g d.natAbs),I (set+1:Nat)] h1=true∧resetGo [0] 0 [(0,.none)] h1=[(0,.none)]:=by
    rcases e2 with ⟨_,rfl⟩ | ⟨_,rfl⟩
    ·have:offS [0] (nat (Nat.gcd g d.natAbs))=true:=rfl
     simp [clean,offSs,offS_int,this,offH_cons,offH,notIn_cons,beq_lit,reset_cons,resetGo]
    ·have:offS [0] (nat (Nat.gcd g d.natAbs))=true:=rfl
     simp [clean,offSs,offS_int,this,offH_cons,offH,notIn_cons,beq_lit,reset_cons,resetGo,show flA.s=0 from rfl]
   simp (disch:=first|omega|simp<;>omega|fail)[hlv,h']
   refine jo_in ?_
   simp (disch:=first|omega|simp<;>omega|fail)[h']
   refine cdz (ds:=[mat m,lst di cols]) (h':=h1) ?_ hd ?_
   ·have e3:snap [flA.b cols.length (cols.map di)] (flA.v cols.length (cols.map di))=some (lst di cols,h1):=e1
    rw [h] at e3
    simp [snaps,mat,e3,h]
   ·rw [show plainV (intV d)=false from rfl]
    simp (disch:=first|omega|simp<;>omega|fail)[intV,intL]
    refine cdx (ds:=[nat g,nat d.natAbs]) (by simp [snaps,snap,isN_snap hg,nat_natD]) hco ?_
    simp (disch:=first|omega|simp<;>omega|fail)[]
    rw [show (set:Int)+1=((set+1:Nat):Int) by omega,hoff.2]
    exact ⟨hoff.1,this⟩
  ·rw [if_neg h] at hk
   have:=ih g gv (by omega) hg hgl hk
   simp (disch:=first|omega|simp<;>omega|fail)[hlv,h]
   refine jo_in ?_
   simp (disch:=first|omega|simp<;>omega|fail)[h,clean,offSs,hgo,offS_int,offH_cons,offH,notIn_cons,notIn_nil,beq_lit,reset_cons,reset_end]
   simpa using this
theorem full_ok {m:List (List Int)} {n:Nat} (hm:∀ r ∈ m,okRow r=true∧r.length=n) (hn:n≤12) (hml:m.length≤12):CP Y F.checker_full [mat m,I n] (B (fullB m n)):=by
 refine checker_full_i ?_
 obtain ⟨N,hN⟩:∃ N,2 ^ n=N:=⟨_,rfl⟩
 have hNl:N≤2 ^ 12:=by rw [← hN]; exact Nat.pow_le_pow_right (by decide) hn
 have hNi:(2:Int) ^ n=(N:Int):=by rw [← hN]; simp
 have hb:∀ (k s g:Nat),len g≤132→len (fullGo m n k s g)≤132:=by
  intro k
  induction k with
  | zero=>intro s g h; exact h
  | succ k ih =>
   intro s g h
   simp only [fullGo]
   refine ih _ _ ?_
   split
   ·rename_i hcl
    have hdl:=detI_len (cols:=colsGo s n 0) hm (fun c hc=>by have:=colsGo_mem s n 0 c hc; omega) (by have:=colsGo_len s n 0; omega) hml
    rcases Nat.eq_zero_or_pos g with e | e
    ·subst e; rw [Nat.gcd_zero_left]; exact hdl
    ·exact Nat.le_trans (len_mono (Nat.gcd_le_left _ e)) h
   ·exact h
 unfold fullB
 rw [hN]
 simp (disch:=first|omega|simp<;>omega|fail)[checker_full,hNi]
 refine lo (full_loop hm hn hml _ N (by omega) N 0 0 _ (by omega) (.inr ⟨rfl,rfl⟩) (by rw [len_zero]; omega) fun gv hg=>?_)
 have hgl:=hb N 0 0 (by rw [len_zero]; omega)
 have h40:(2:Nat) ^ 40=1099511627776:=by decide
 generalize fullGo m n N 0 0=g at *
 have hor:=order_ok (a:=g) (b:=1) (by omega) (by have:=len_le (n:=1) (k:=1) (by decide); omega)
 rw [nat_one] at hor
 simp (disch:=first|omega|simp<;>omega|fail)[lis_one]
 refine cdx (ds:=[nat g,.d (.sl 1 [.int .u32 1])]) (by simp [snaps,isN_snap hg]) hor ?_
 simp (disch:=first|omega|simp<;>omega|fail)[]
 exact out_b (by rw [decide_eq_decide,cmp_zero])
def matD (m:List (List Int)):D:=.sl m.length (m.map row)
@[simp] theorem norm_matD (m:List (List Int)):norm (matD m)=matD m:=rfl
def fmB (n:Nat) (m:List (List Int)):Bool:=formI m && (decide (m.length=0) || decide ((m.headD []).length=n)) && fullB m n
def zeroB (a:List Int) (mp:List (List Int)):Bool:=mp.all fun b=>decide (dotI a b=0)
def tempB (p:List Int) (cm mp:List (List Int)):Bool:=primesB p && decide (cm.length+mp.length=p.length) && (fmB p.length cm && fmB p.length mp) && cm.all fun a=>zeroB a mp
theorem fm_rows {n:Nat} {m:List (List Int)} (h1:formI m=true) (h2:m.length=0∨(m.headD []).length=n):(∀ r ∈ m,okRow r=true∧r.length=n)∧m.length≤12:=by
 have hm:okMat m=true:=by simp only [formI,Bool.and_eq_true] at h1; exact h1.1
 refine ⟨fun r hr=>?_,by simp only [okMat,Bool.and_eq_true,decide_eq_true_eq] at hm; exact hm.1⟩
 have:=okMat_row hm r hr
 rcases h2 with h | h
 ·rw [List.eq_nil_of_length_eq_zero h] at hr; cases hr
 ·exact ⟨this.2.2,by omega⟩
theorem temp_l0 {n:Nat} (hn:n≤12) {l:List (List (List Int))} (hl:∀ m ∈ l,m.length < 1000000000∧∀ r ∈ m,r.length < 1000000000) (hN:l.length < 1000000000) (k:KL) (h:Hp) (h0:Hp) (hh:h0.length=h.length):∀ (q a:List (List (List Int))),a++q=l→(q.all (fmB n)=true→k (.exit 0) [] h)→(q.all (fmB n)=false→k .ret [B false] h) →
  lp (checker_Temperament_l0 (CX Y) (I n) (lst matD l) (I l.length)) [] h0 [I a.length] h k
 | []=>by
  intro a ha h1 h2
  simp at ha
  subst ha
  refine lp_in ?_
  simp (disch:=first|omega|simp<;>omega|fail)[checker_Temperament_l0]
  exact h1 rfl
 | m :: q=>by
  intro a ha h1 h2
  have hal:a.length < l.length:=by subst ha; simp
  have hm:nth [] l a.length=m:=by subst ha; simp
  have hml:=hl m (by subst ha; simp)
  have eI:ixV h 1 (lst matD l) (.d (.int .i64 (a.length:Int)))=some (.dptr (l.map matD) a.length):=ix_lst matD _ h rfl hal
  have eL:ld1 h (.dptr (l.map matD) a.length)=some (mat m):=by
   have:=ld_nth matD [] l h hal
   rw [hm] at this
   exact this
  have ih:=temp_l0 hn hl hN k h h0 hh q (a++[m]) (by simpa using ha)
  have hform:=form_ok (m:=m) (by omega) (fun r hr=>by have:=hml.2 r hr; omega)
  simp only [List.all_cons] at h1 h2
  refine lp_in ?_
  simp (disch:=first|omega|simp<;>omega|fail)[checker_Temperament_l0,eI,eL]
  refine cd hform ?_ (by simp [snaps,mat])
  by_cases g1:formI m=true
  rotate_left
  ·have:fmB n m=false:=by simp [fmB,g1]
   rw [this] at h2
   simp (disch:=first|omega|simp<;>omega|fail)[g1]
   simpa using h2
  have hld:0 < m.length→ld1 h (.dptr (m.map row) 0)=some (.d (row (nth [] m 0))):=fun h0=>ld_mrow m h h0
  by_cases g0:m.length=0
  ·have hrw:=fm_rows (n:=n) g1 (.inl g0)
   have hfull:=full_ok (m:=m) hrw.1 hn hrw.2
   by_cases g3:fullB m n=true
   ·have:fmB n m=true:=by simp [fmB,g1,g0,g3]
    rw [this] at h1 h2
    simp only [Bool.true_and] at h1 h2
    have:=ih h1 h2
    have g0':¬ (0:Int) < (m.length:Int):=by omega
    simp (disch:=first|omega|simp<;>omega|fail)[g1,g0']
    refine cd hfull ?_ (by simp [snaps,mat])
    simp (disch:=first|omega|simp<;>omega|fail)[g3,hh]
    simpa using this
   ·have:fmB n m=false:=by simp [fmB,g3]
    rw [this] at h2
    have g0':¬ (0:Int) < (m.length:Int):=by omega
    simp (disch:=first|omega|simp<;>omega|fail)[g1,g0']
    refine cd hfull ?_ (by simp [snaps,mat])
    simp (disch:=first|omega|simp<;>omega|fail)[g3]
    simpa using h2
  ·have g0':(0:Int) < (m.length:Int):=by omega
   by_cases g2:(m.headD []).length=n
   ·have g2':((nth [] m 0).length:Int)=(n:Int):=by rw [nth_zero]; omega
    have hrw:=fm_rows (n:=n) g1 (.inr g2)
    have hfull:=full_ok (m:=m) hrw.1 hn hrw.2
    by_cases g3:fullB m n=true
    ·have:fmB n m=true:=by simp only [fmB,g1,g2,g3]; simp
     rw [this] at h1 h2
     simp only [Bool.true_and] at h1 h2
     have:=ih h1 h2
     simp (disch:=first|omega|simp<;>omega|fail)[g1,g0',g2']
     refine cd hfull ?_ (by simp [snaps,mat])
     simp (disch:=first|omega|simp<;>omega|fail)[g3,hh]
     simpa using this
    ·have:fmB n m=false:=by simp [fmB,g3]
     rw [this] at h2
     simp (disch:=first|omega|simp<;>omega|fail)[g1,g0',g2']
     refine cd hfull ?_ (by simp [snaps,mat])
     simp (disch:=first|omega|simp<;>omega|fail)[g3]
     simpa using h2
   ·have g2':¬ ((nth [] m 0).length:Int)=(n:Int):=by rw [nth_zero]; omega
    have:fmB n m=false:=by
     have e1:decide (m.length=0)=false:=by simpa using g0
     have e2:decide ((m.headD []).length=n)=false:=by simpa using g2
     simp only [fmB,g1,e1,e2]; rfl
    rw [this] at h2
    simp (disch:=first|omega|simp<;>omega|fail)[g1,g0',g2']
    simpa using h2
theorem temp_l2 {a:List Int} {mp:List (List Int)} (ha:okRow a=true) (hal:a.length≤12) (hm:∀ r ∈ mp,okRow r=true∧r.length=a.length) (hml:mp.length≤12) (k:KL) (h h0:Hp) (hh:h0.length=h.length):∀ (q p:List (List Int)),p++q=mp→(zeroB a q=true→k (.exit 4) [] h)→(zeroB a q=false→k .ret [B false] h) →
  lp (checker_Temperament_l2 (CX Y) (.d (row a)) (mat mp) (I mp.length)) [] h0 [I p.length] h k
 | []=>by
  intro p hp h1 h2
  simp at hp
  subst hp
  refine lp_in ?_
  simp (disch:=first|omega|simp<;>omega|fail)[checker_Temperament_l2]
  exact h1 rfl
 | b :: q=>by
  intro p hp h1 h2
  have hpl:p.length < mp.length:=by subst hp; simp
  have hb:nth [] mp p.length=b:=by subst hp; simp
  have hbr:=hm b (by subst hp; simp)
  have ih:=temp_l2 ha hal hm hml k h h0 hh q (p++[b]) (by simpa using hp)
  have hd:=dotI_le a b (by omega) ha hbr.1
  simp only [zeroB,List.all_cons] at h1 h2 ih
  refine lp_in ?_
  simp (disch:=first|omega|simp<;>omega|fail)[checker_Temperament_l2,hb]
  refine cd (args:=[lst di a,lst di b]) (dot_ok (a:=a) (b:=b) (by omega) (by omega) ha hbr.1) ?_
  simp (disch:=first|omega|simp<;>omega|fail)[]
  refine cd (number_ok (n:=0) (by omega)) ?_
  simp (disch:=first|omega|simp<;>omega|fail)[]
  refine cd (equal_ok (a:=dotI a b) (b:=0) (fits_small (by omega) (by omega)) (fits_small (by omega) (by omega))) ?_
  by_cases g:dotI a b=0
  ·rw [show decide (dotI a b=0)=true by simpa using g] at h1 h2
   simp only [Bool.true_and] at h1 h2
   have:=ih h1 h2
   simp (disch:=first|omega|simp<;>omega|fail)[g,hh]
   simpa using this
  ·rw [show decide (dotI a b=0)=false by simpa using g] at h2
   simp (disch:=first|omega|simp<;>omega|fail)[g]
   simpa using h2
theorem temp_l1 {cm mp:List (List Int)} {n:Nat} (hn:n≤12) (hc:∀ r ∈ cm,okRow r=true∧r.length=n) (hm:∀ r ∈ mp,okRow r=true∧r.length=n) (hcl:cm.length≤12) (hml:mp.length≤12) (k:KL) (x y:V) (h0:Hp) (hh:h0.length=1):∀ (q a:List (List Int)),a++q=cm→(q.all (fun a=>zeroB a mp)=true→k (.exit 2) [] [(1,.vars [x,y,mat mp])])→(q.all (fun a=>zeroB a mp)=false→k .ret [B false] [(1,.vars [x,y,mat mp])]) →
  lp (checker_Temperament_l1 (CX Y) (.ptr 0 1 0 3) (mat cm) (I cm.length)) [] h0 [I a.length] [(1,.vars [x,y,mat mp])] k
 | []=>by
  intro a ha h1 h2
  simp at ha
  subst ha
  refine lp_in ?_
  simp (disch:=first|omega|simp<;>omega|fail)[checker_Temperament_l1]
  exact h1 rfl
 | b :: q=>by
  intro a ha h1 h2
  have hal:a.length < cm.length:=by subst ha; simp
  have hb:nth [] cm a.length=b:=by subst ha; simp
  have hbr:=hc b (by subst ha; simp)
  have ih:=temp_l1 hn hc hm hcl hml k x y h0 hh q (a++[b]) (by simpa using ha)
  simp only [List.all_cons] at h1 h2
  refine lp_in ?_
  simp (disch:=first|omega|simp<;>omega|fail)[checker_Temperament_l1,hb]
  refine lo (temp_l2 hbr.1 (by omega) (fun r hr=>⟨(hm r hr).1,by rw [(hm r hr).2,hbr.2]⟩) hml _ _ _ rfl mp [] rfl (fun g=>?_) (fun g=>?_))
  ·rw [g] at h1 h2
   simp only [Bool.true_and] at h1 h2
   have:=ih h1 h2
   simp (disch:=first|omega|simp<;>omega|fail)[hh]
   simpa using this
  ·rw [g] at h2
   simp (disch:=first|omega|simp<;>omega|fail)[]
   simpa using h2
theorem temperament_ok {p:List Int} {cm mp:List (List Int)} (hp:p.length < 1000000000) (hc:cm.length < 1000000000∧∀ r ∈ cm,r.length < 1000000000) (hm:mp.length < 1000000000∧∀ r ∈ mp,r.length < 1000000000):CP Y F.checker_Temperament [.agg [lst di p,mat cm,mat mp]] (B (tempB p cm mp)):=by
 refine checker_Temperament_i ?_
 simp (disch:=first|omega|simp<;>omega|fail)[checker_Temperament]
 refine cd (primes_ok hp) ?_
 by_cases g1:primesB p=true
 rotate_left
 ·simp (disch:=first|omega|simp<;>omega|fail)[g1]
  exact out_b (by simp [tempB,g1])
 have hp6:=primesB_len g1
 by_cases g2:cm.length+mp.length=p.length
 rotate_left
 ·have g2':¬ (cm.length:Int)+(mp.length:Int)=(p.length:Int):=by omega
  simp (disch:=first|omega|simp<;>omega|fail)[g1,g2']
  exact out_b (by simp [tempB,g2])
 have g2':((cm.length:Int)+(mp.length:Int)=(p.length:Int))=True:=eq_true (by omega)
 have hli:∀ H:Hp,lisR 2 [D.pl (Value.slice none 0 0)] [(0,mat cm),(1,mat mp)] H=some ([matD cm,matD mp],H):=fun H=>by
  have e1:mat cm=.d (matD cm):=rfl
  have e2:mat mp=.d (matD mp):=rfl
  rw [e1,e2]
  simp [lisR,repl,toDs,toD]
 have hl2:V.d (.sl 2 [matD cm,matD mp])=lst matD [cm,mp]:=rfl
 simp (disch:=first|omega|simp<;>omega|fail)[g1,g2']
 rw [hli]
 simp (disch:=first|omega|simp<;>omega|fail)[]
 rw [hl2]
 simp (disch:=first|omega|simp<;>omega|fail)[]
 refine lo (temp_l0 (n:=p.length) (by omega) (l:=[cm,mp]) (by simp; exact ⟨hc,hm⟩) (by simp) _ _ _ rfl [cm,mp] [] rfl (fun g=>?_) (fun g=>?_))
 ·simp only [List.all_cons,List.all_nil,Bool.and_true,Bool.and_eq_true] at g
  obtain ⟨f1,f2⟩:=g
  have f1':=f1
  have f2':=f2
  simp only [fmB,Bool.and_eq_true,Bool.or_eq_true,decide_eq_true_eq] at f1 f2
  have r1:=fm_rows f1.1.1 f1.1.2
  have r2:=fm_rows f2.1.1 f2.1.2
  simp (disch:=first|omega|simp<;>omega|fail)[]
  refine lo (temp_l1 (n:=p.length) (by omega) r1.1 r2.1 r1.2 r2.2 _ _ _ _ rfl cm [] rfl (fun g=>?_) (fun g=>?_))
  ·simp (disch:=first|omega|simp<;>omega|fail)[]
   exact out_b (by simp only [tempB,g1,g2,f1',f2',g]; simp)
  ·simp (disch:=first|omega|simp<;>omega|fail)[]
   exact out_b (by simp only [tempB,g]; simp)
 ·simp (disch:=first|omega|simp<;>omega|fail)[]
  refine out_b ?_
  have e:(fmB p.length cm && fmB p.length mp)=false:=by simpa [Bool.and_eq_false_iff] using g
  simp only [tempB,e]; simp
end Go.Vm
