/- Determinants of the checker. -/
import Derived.Test.YtbdajblfnkoagaaGreatDoorQCkSign
import Derived.Test.YtbdajblfnkoagaaGreatDoorQT
set_option linter.unusedVariables false
set_option linter.unusedSimpArgs false
namespace Go.Vm
open Go Go.Am Go.Big
theorem cloneInt_in {h:Hp} (hu:(h.all fun x=>underB h.length x.2)=true) {l:List Int} (hl:0 < l.length) (hb:l.length < 1000000000000):CI Y F.slices_Clone_int_int [lst di l] h (.new 1 (l.map di) false l.length l.length) h:=by
 refine slices_Clone_int_int_i ?_
 simp (disch:=first|omega|simp<;>omega|fail)[slices_Clone_int_int]
 have hli:lisR 0 [D.int IntKind.i64 0] [] (h++[(0,Bk.none),(0,Bk.none)])=some ([],h++[(0,Bk.none),(0,Bk.none)]):=by
  simp [lisR,repl,toDs]
 rw [hli]
 simp (disch:=first|omega|simp<;>omega|fail)[]
 refine clone_app (z:=[]) (by decide) hl (by simp) (by omega) ?_
 simp (disch:=first|omega|simp<;>omega|fail)[]
 refine ⟨by simp,?_,.inr (.inr (.inl ⟨h.length+1,1,l.length,l.length,1,l.map di,false,by simp,by omega,by simp [hget],rfl⟩))⟩
 simp only [List.all_append,hu,Bool.true_and]
 try simp [underB]
theorem del_app {a b d e f:Nat × Bk} {l:List Int} {i j:Nat} (hj:j=i+1) (hi:i < l.length) (hb:l.length < 1000000) {q:V→Hp→Prop} {u:PU q}
  (hq:q (.ref 2 1 0 (l.length - 1) l.length l.length) [a,b,(1,.data 1 ((l.take i++l.drop j++l.drop (l.length - 1)).map di) false false),d,e,f]) :
  rh (apV false 5 1 8 (.ref 2 1 0 i l.length l.length) (.ref 2 1 j (l.length - j) (l.length - j) l.length) [a,b,(1,.data 1 (l.map di) false false),d,e,f]) q u:=by
 unfold rh apV
 have hg:∀ x,hget [a,b,(1,x),d,e,f] 2 1=x:=fun x=>rfl
 simp only [cellsOf,hg,List.length_map,Nat.mul_one]
 rw [if_pos ⟨trivial,by omega⟩]
 simp only []
 have htl:(((l.map di).drop j).take (l.length - j)).length=l.length - j:=by simp
 rw [if_pos htl]
 unfold apC
 by_cases h0:l.length - j=0
 ·rw [if_pos h0]
  simp only []
  rw [if_pos (by omega)]
  have e1:l.take i++l.drop j++l.drop (l.length - 1)=l:=by
   rw [List.drop_eq_nil_of_le (by omega),List.append_nil,show l.length - 1=i by omega,List.take_append_drop]
  rw [e1,show l.length - 1=i by omega] at hq
  exact hq
 ·rw [if_neg h0]
  simp only [hg,List.length_map,Nat.mul_one]
  rw [if_pos ⟨trivial,trivial,by omega,by omega,htl⟩,if_pos (by omega)]
  simp only [Bool.or_self,Bool.false_eq_true,if_false,Nat.zero_add]
  have e1:List.take i (l.map di)++((l.map di).drop j).take (l.length - j)++List.drop (i+(l.length - j)) (l.map di)=(l.take i++l.drop j++l.drop (l.length - 1)).map di:=by
   rw [List.take_of_length_le (l:=(l.map di).drop j) (by simp),show i+(l.length - j)=l.length - 1 by omega]
   simp
  rw [e1,show i+(l.length - j)=l.length - 1 by omega]
  exact hq
theorem del_in {a b d e:Nat × Bk} {l:List Int} {i n:Nat} (hn:n=l.length) (hi:i < n) (hb:n < 1000000) (hu:(underB 5 a.2 && underB 5 b.2 && underB 5 d.2 && underB 5 e.2)=true) :
  CI Y F.slices_Delete_int_int [.ref 2 1 0 n n n,I i,I (i+1:Nat)] [a,b,(1,.data 1 (l.map di) false false),d,e] (.ref 2 1 0 (n - 1) n n) [a,b,(1,.data 1 ((l.eraseIdx i++[0]).map di) false false),d,e]:=by
 subst hn
 refine slices_Delete_int_int_i ?_
 have h1:¬ (i:Int)=((i+1:Nat):Int):=by omega
 obtain ⟨j,hj⟩:∃ j,j=i+1:=⟨_,rfl⟩
 rw [← hj] at h1 ⊢
 have hsx:slX [a,b,(1,.data 1 (l.map di) false false),d,e,(0,.none)] 1 (.ref 2 1 0 l.length l.length l.length) (some (I i)) (some (I j)) (I l.length)=some (.ref 2 1 i (j - i) (l.length - i) l.length):=by
  simp [slX,hget,boV,show j≤l.length by omega,show i≤j by omega]
 have hs1:slV [a,b,(1,.data 1 (l.map di) false false),d,e,(0,.none)] 1 (.ref 2 1 0 l.length l.length l.length) none (some (I i))=some (.ref 2 1 0 i l.length l.length):=by
  simp [slV,hget,boV,show i≤l.length by omega]
 have hs2:slV [a,b,(1,.data 1 (l.map di) false false),d,e,(0,.none)] 1 (.ref 2 1 0 l.length l.length l.length) (some (I j)) none=some (.ref 2 1 j (l.length - j) (l.length - j) l.length):=by
  simp [slV,hget,boV,show j≤l.length by omega]
 simp (disch:=first|omega|simp<;>omega|fail)[slices_Delete_int_int,hsx,hs1,hs2,h1]
 refine del_app hj hi hb ?_
 have hxl:(l.take i++l.drop j++l.drop (l.length - 1)).length=l.length:=by simp; omega
 have hs3:slV [a,b,(1,.data 1 ((l.take i++l.drop j++l.drop (l.length - 1)).map di) false false),d,e,(0,.none)] 1 (.ref 2 1 0 (l.length - 1) l.length l.length) (some (I (l.length - 1:Nat))) (some (I l.length))=some (.ref 2 1 (l.length - 1) 1 (l.length - (l.length - 1)) l.length):=by
  simp only [slV,hget,List.getElem?_cons_succ,List.getElem?_cons_zero,if_true,boV,List.length_map,hxl]
  rw [if_pos ⟨by omega,by omega⟩]
  simp only [Int.toNat_natCast]
  rw [if_pos ⟨by omega,by omega⟩]
  simp only [Int.toNat_natCast]
  rw [if_pos ⟨trivial,by omega,trivial⟩]
  congr 2 <;> omega
 have herase:(l.take i++l.drop j++l.drop (l.length - 1)).take (l.length - 1)=l.eraseIdx i:=by
  rw [List.take_left' (by simp; omega),List.eraseIdx_eq_take_drop_succ,hj]
 obtain ⟨E,hE⟩:∃ E,E=l.eraseIdx i++[0]:=⟨_,rfl⟩
 rw [← hE]
 have hclr:∀ q:V→Hp→Prop,q (.tup []) [a,b,(1,.data 1 (E.map di) false false),d,e,(0,.none)]→clrD [a,b,(1,.data 1 ((l.take i++l.drop j++l.drop (l.length - 1)).map di) false false),d,e,(0,.none)] [D.int .i64 0] (.ref 2 1 (l.length - 1) 1 (l.length - (l.length - 1)) l.length) q:=by
  intro q hq
  generalize l.take i++l.drop j++l.drop (l.length - 1)=X at *
  have e1:List.take (l.length - 1) (X.map di)++[D.int .i64 0]++List.drop (l.length - 1+1) (X.map di)=E.map di:=by
   rw [← List.map_take,herase,List.drop_eq_nil_of_le (by simp; omega),hE]
   simp [di]
  simp only [clrD,hget,List.getElem?_cons_succ,List.getElem?_cons_zero,if_true,List.length_singleton,List.length_map,hxl,repl,List.append_nil]
  rw [if_pos ⟨by omega,trivial,by omega,trivial,trivial,by omega⟩,e1]
  exact hq
 generalize l.take i++l.drop j++l.drop (l.length - 1)=X at *
 simp (disch:=first|omega|simp<;>omega|fail)[hs3]
 refine hclr _ ?_
 refine ⟨rfl,?_,.inl ⟨rfl,by simp [under]⟩⟩
 simp only [Bool.and_eq_true] at hu
 obtain ⟨⟨⟨u1,u2⟩,u3⟩,u4⟩:=hu
 simp only [List.all_cons,List.all_nil,u1,u2,u3,u4,Bool.true_and]
 rfl
def detFrom (r:List Int) (f:List Int→Int) (cols:List Int):Nat→Nat→Int
 | 0,_=>0
 | k+1,i=>(if i % 2=1 then -(nth 0 r (nth 0 cols i).toNat * f (cols.eraseIdx i)) else nth 0 r (nth 0 cols i).toNat * f (cols.eraseIdx i))+detFrom r f cols k (i+1)
def detI:List (List Int)→List Int→Int
 | [],_=>1
 | r :: m,cols=>detFrom r (detI m) cols cols.length 0
theorem term_bound {r:List Int} (hr:okRow r=true) {c:Nat} (hc:c < r.length) {x:Int} {K:Nat} (hx:x.natAbs≤K) (b:Bool):(if b=true then -(nth 0 r c * x) else nth 0 r c * x).natAbs≤1000000000 * K:=by
 have hm:okEnt (nth 0 r c)=true:=by
  simp only [okRow,List.all_eq_true] at hr
  exact hr _ (nth_mem hc)
 rw [okEnt_iff] at hm
 have h1:=Nat.mul_le_mul (show (nth 0 r c).natAbs≤1000000000 by omega) hx
 rw [← Int.natAbs_mul] at h1
 cases b
 ·simpa using h1
 ·simpa using h1
theorem erase_ok {cols:List Int} {n:Nat} (h:∀ c ∈ cols,0≤c∧c < (n:Int)) (i:Nat):∀ c ∈ cols.eraseIdx i,0≤c∧c < (n:Int):=fun c hc=>h c (List.mem_of_mem_eraseIdx hc)
theorem detFrom_bound {r:List Int} (hr:okRow r=true) {f:List Int→Int} {cols:List Int} (hc:∀ c ∈ cols,0≤c∧c < (r.length:Int)) {K:Nat} (hf:∀ i,i < cols.length→(f (cols.eraseIdx i)).natAbs≤K):∀ (k i:Nat),i+k=cols.length→(detFrom r f cols k i).natAbs≤k * (1000000000 * K)
 | 0,i,h=>by simp [detFrom]
 | k+1,i,h=>by
  have ih:=detFrom_bound hr hc hf k (i+1) (by omega)
  have hci:=hc (nth 0 cols i) (nth_mem (by omega))
  have ht:=term_bound hr (c:=(nth 0 cols i).toNat) (by omega) (hf i (by omega)) (decide (i % 2=1))
  simp only [decide_eq_true_eq] at ht
  simp only [detFrom]
  rw [Nat.succ_mul]
  omega
theorem detI_bound:∀ (m:List (List Int)) (cols:List Int) (n:Nat),(∀ r ∈ m,okRow r=true∧r.length=n)→(∀ c ∈ cols,0≤c∧c < (n:Int))→cols.length≤12→(detI m cols).natAbs≤100000000000 ^ m.length
 | [],cols,n,_,_,_=>by simp [detI]
 | r :: m,cols,n,hm,hc,hl=>by
  have hr:=hm r (by simp)
  have h:=detFrom_bound (f:=detI m) (K:=100000000000 ^ m.length) hr.1 (by rw [hr.2]; exact hc) (fun i hi=>detI_bound m _ n (fun q hq=>hm q (by simp [hq])) (erase_ok hc i) (by rw [List.length_eraseIdx]; split <;> omega)) cols.length 0 (by omega)
  simp only [detI]
  refine Nat.le_trans h ?_
  rw [List.length_cons,Nat.pow_succ,← Nat.mul_assoc,Nat.mul_comm (100000000000 ^ m.length)]
  exact Nat.mul_le_mul_right _ (by omega)
abbrev z0:Nat × Bk:=(1,.vars [.d (.bool false),.d (.pl (.slice none 0 0))])
def dtH (s:Int) (xv:V):Hp:=[z0,(1,.vars [.d (.bool (decide (s < 0))),xv]),(0,.none),(0,.none),(0,.none)]
theorem isN_under {v:V} {n:Nat} (h:isN v n) (b:Nat):under b v=true:=by rcases h with rfl | ⟨_,rfl⟩ <;> rfl
theorem isN_off {v:V} {n:Nat} (h:isN v n) (clr:List Nat):offS clr v=true:=by rcases h with rfl | ⟨_,rfl⟩ <;> rfl
theorem isN_nat (n:Nat):isN (.d (natD n)) n:=.inl rfl
theorem det_loop {r:List Int} {m:List (List Int)} {cols:List Int} (hr:okRow r=true) (hc:∀ c ∈ cols,0≤c∧c < (r.length:Int)) (hl:cols.length≤12) (hml:m.length≤12)
  (hrec:∀ i,i < cols.length→CP Y F.checker_determinant [mat m,lst di (cols.eraseIdx i)] (intV (detI m (cols.eraseIdx i)))) (hb:∀ i,i < cols.length→(detI m (cols.eraseIdx i)).natAbs≤100000000000 ^ m.length)
  (k:KL) (h0:Hp) (hh:h0=[z0,(1,.vars [.d (.bool false),.d (.pl (.slice none 0 0))]),(0,.none),(0,.none),(0,.none)]) :
  ∀ (n i:Nat) (s:Int) (xv:V),i+n=cols.length→isN xv s.natAbs→s.natAbs≤i * (1000000000 * 100000000000 ^ m.length) →
  (∀ xv',isN xv' (s+detFrom r (detI m) cols n i).natAbs→k (.exit 0) [] (dtH (s+detFrom r (detI m) cols n i) xv')) →
  lp (checker_determinant_l0 (CX Y) (mat (r :: m)) (lst di cols) (.ptr 1 1 0 2) (lst di cols) (I cols.length)) [2,3,4] h0 [I i] (dtH s xv) k
 | 0,i,s,xv,hi,hx,hs,hk=>by
  refine lp_in ?_
  simp (disch:=first|omega|simp<;>omega|fail)[checker_determinant_l0]
  have:=hk xv (by simpa [detFrom] using hx)
  simpa [detFrom] using this
 | n+1,i,s,xv,hi,hx,hs,hk=>by
  have hic:i < cols.length:=by omega
  have hci:=hc (nth 0 cols i) (nth_mem hic)
  have ih:=det_loop hr hc hl hml hrec hb k h0 hh n (i+1)
  simp only [detFrom,← Int.add_assoc] at hk
  obtain ⟨c,hcc⟩:∃ c:Nat,nth 0 cols i=c:=⟨(nth 0 cols i).toNat,by omega⟩
  rw [hcc] at hci
  rw [hcc,Int.toNat_natCast] at hk
  have eI:∀ h:Hp,ixV h 1 (lst di cols) (.d (.int .i64 (i:Int)))=some (.dptr (cols.map di) i):=fun h=>ix_lst di _ h rfl hic
  have eL:∀ h:Hp,ld1 h (.dptr (cols.map di) i)=some (.d (di (c:Int))):=fun h=>by rw [ld_row cols h hic,hcc]
  have e0:nth [] (r :: m) 0=r:=rfl
  have hK:=hb i hic
  have ht0:=term_bound hr (c:=c) (by omega) hK
  have ht:=ht0 (decide (i % 2=1))
  simp only [decide_eq_true_eq] at ht
  obtain ⟨e,he⟩:∃ e,nth 0 r c=e:=⟨_,rfl⟩
  obtain ⟨d,hd⟩:∃ d,detI m (cols.eraseIdx i)=d:=⟨_,rfl⟩
  rw [he,hd] at hk ht ht0
  rw [hd] at hK
  obtain ⟨t,htt⟩:∃ t,(if i % 2=1 then -(e * d) else e * d)=t:=⟨_,rfl⟩
  rw [htt] at hk ht
  have hnext:(s+t).natAbs≤(i+1) * (1000000000 * 100000000000 ^ m.length):=by
   rw [Nat.succ_mul]
   omega
  have ih':=fun xv' hx'=>ih (s+t) xv' (by omega) hx' hnext hk
  refine lp_in ?_
  subst hh
  by_cases he0:e=0
  ·have ht0':t=0:=by rw [← htt,he0]; simp
   rw [ht0',Int.add_zero] at ih'
   have:=ih' xv hx
   simp (disch:=first|omega|simp<;>omega|fail)[checker_determinant_l0]
   refine jo_in ?_
   have hxo:=isN_off hx [2,3,4]
   simp (disch:=first|omega|simp<;>omega|fail)[eI,eL,e0,he,he0,dtH,clean,offSs,hxo,offS_int,offH_cons,offH,offB_none,offB,reset_cons,reset_end,notIn_nil,notIn_cons,beq_lit]
   simpa [dtH] using this
  ·have hxo:=isN_off hx [2,3,4]
   have hxu:=isN_under hx 5
   have hcl:0 < cols.length:=by omega
   have hfe:∀ z:Int,z.natAbs≤12 * (1000000000 * 100000000000 ^ m.length)→fits z:=fun z hz=>by
    refine fits_dec (k:=200) (Nat.lt_of_le_of_lt hz ?_) (by omega)
    have h1:(100000000000:Nat) ^ m.length≤100000000000 ^ 12:=Nat.pow_le_pow_right (by decide) hml
    have h2:12 * (1000000000 * 100000000000 ^ 12) < 10 ^ 200:=by decide
    have h3:12 * (1000000000 * 100000000000 ^ m.length)≤12 * (1000000000 * 100000000000 ^ 12):=Nat.mul_le_mul_left _ (Nat.mul_le_mul_left _ h1)
    omega
   have hile:i * (1000000000 * 100000000000 ^ m.length)≤12 * (1000000000 * 100000000000 ^ m.length):=Nat.mul_le_mul_right _ (by omega)
   have hile2:1000000000 * 100000000000 ^ m.length≤12 * (1000000000 * 100000000000 ^ m.length):=by omega
   have hde:=okEnt_iff.1 (by simp only [okRow,List.all_eq_true] at hr; rw [← he]; exact hr _ (nth_mem (by omega)):okEnt e=true)
   have hnum:=number_ok (n:=e) (by omega)
   have hdet:=hrec i hic
   rw [hd] at hdet
   have htim:=times_ok (a:=e) (b:=d) (fits_small (by omega) (by omega)) (hfe d (by omega))
   have hadd:=add_ok (a:=s) (b:=t) (hfe s (by omega)) (hfe t (by omega))
   have hclone:=cloneInt_in (h:=dtH s xv) (by simp [dtH,underB,unders,hxu,under]) (l:=cols) hcl (by omega)
   have hdel:=fun (b3 b4:Nat × Bk) (h3:underB 5 b3.2=true) (h4:underB 5 b4.2=true)=>del_in (a:=z0) (b:=(1,.vars [.d (.bool (decide (s < 0))),xv])) (d:=b3) (e:=b4) (l:=cols) (i:=i) (n:=cols.length) rfl hic (by omega) (by rw [h3,h4]; simp [underB,unders,hxu,under])
   have hsl:∀ h:Hp,slV h 1 (mat (r :: m)) (some (.d (.int .i64 1))) none=some (mat m):=fun h=>by
    have:=sx_lo row (r :: m) h (i:=1) (by omega) (by simp; omega) (by simp)
    simpa using this
   simp (disch:=first|omega|simp<;>omega|fail)[checker_determinant_l0]
   refine jo_in ?_
   simp (disch:=first|omega|simp<;>omega|fail)[eI,eL,e0,he,he0]
   refine cd hnum ?_
   simp (disch:=first|omega|simp<;>omega|fail)[hsl]
   refine rh_in (cai_new (s:=2) (e:=0) (b:=.none) hclone rfl ?_)
   obtain ⟨j,hj⟩:∃ j,j=i+1:=⟨_,rfl⟩
   have hji:((i:Int)+1)=(j:Int):=by omega
   simp only [← hj] at hdel
   have hel:(cols.eraseIdx i).length=cols.length - 1:=by rw [List.length_eraseIdx,if_pos hic]
   obtain ⟨E,hE⟩:∃ E,(cols.eraseIdx i++[0]).map di=E:=⟨_,rfl⟩
   have hE1:E.length=cols.length:=by rw [← hE]; simp [hel]; omega
   have hE2:E.take (cols.length - 1)=(cols.eraseIdx i).map di:=by rw [← hE,List.map_append,List.take_left' (by simp [hel])]
   simp only [hE] at hdel
   simp (disch:=first|omega|simp<;>omega|fail)[hji,dtH]
   refine rh_in (cai_of (hdel (0,.none) (0,.none) rfl rfl) ?_ (by simp))
   simp (disch:=first|omega|simp<;>omega|fail)[]
   refine cdz (ds:=[mat m,lst di (cols.eraseIdx i)]) (h':=[z0,(1,.vars [.d (.bool (decide (s < 0))),xv]),(1,.data 1 E false true),(0,.none),(0,.none)]) ?_ hdet ?_
   ·simp [snaps,snap,toD,hget,lst,hel,hE1,hE2]
   ·have hpl:plainV (intV d)=false:=rfl
    have htn:=turned_ok (e * d)
    have hxs:=isN_snap hx
    rw [hpl]
    simp (disch:=first|omega|simp<;>omega|fail)[]
    refine cd htim ?_
    have hrem:((i:Int).tmod 2=1)↔i % 2=1:=by rw [Int.tmod_eq_emod_of_nonneg (by omega)]; omega
    have tail:bnd (ldA ([z0,(1,.vars [.d (.bool (decide (s < 0))),xv]),(1,.data 1 E false true),(0,.none),(1,.vars (intL t))]) 2 (.ptr 1 1 0 2)) fun v29 =>
      bnd (ldA ([z0,(1,.vars [.d (.bool (decide (s < 0))),xv]),(1,.data 1 E false true),(0,.none),(1,.vars (intL t))]) 2 (.ptr 4 1 0 2)) fun v30 =>
      cal (CX Y).p ([z0,(1,.vars [.d (.bool (decide (s < 0))),xv]),(1,.data 1 E false true),(0,.none),(1,.vars (intL t))]) (.fn F.checker_integer_add [] []) [v29,v30] fun v31 h =>
      stD h 2 (.ptr 1 1 0 2) v31 fun _ h =>
      bnd (biI .add (I i) (.d (.int .i64 1))) fun v4 =>
      lpK [2,3,4] [z0,z0,(0,.none),(0,.none),(0,.none)] (fun l h=>lp (checker_determinant_l0 (CX Y) (mat (r :: m)) (lst di cols) (.ptr 1 1 0 2) (lst di cols) (I cols.length)) [2,3,4] [z0,z0,(0,.none),(0,.none),(0,.none)] l h k) k .normal [v4] h:=by
     have:=ih' (.d (natD (s+t).natAbs)) (isN_nat _)
     generalize hst:s+t=st at *
     simp (disch:=first|omega|simp<;>omega|fail)[intL]
     refine cdx (ds:=[intV s,intV t]) (by simp [snaps,snap,hxs,intV,intL,nat_natD]) hadd ?_
     simp (disch:=first|omega|simp<;>omega|fail)[intV,intL,hji,clean,offSs,offS_int,offH_cons,offH,offB_none,offB,reset_cons,reset_end,notIn_nil,notIn_cons,beq_lit]
     simpa [dtH,← hji] using this
    by_cases hodd:i % 2=1
    ·have hr1:=eq_true (hrem.2 hodd)
     rw [if_pos hodd] at htt
     rw [htt] at htn
     simp (disch:=first|omega|simp<;>omega|fail)[intV,intL,hr1]
     refine jo_in ?_
     simp (disch:=first|omega|simp<;>omega|fail)[hr1]
     refine cd (args:=[.agg (intL (e * d))]) htn ?_ (by simp [snaps,snap,intL])
     simp (disch:=first|omega|simp<;>omega|fail)[intV,intL]
     simp (disch:=first|omega|simp<;>omega|fail)[intL] at tail
     exact tail
    ·have hr1:¬ (i:Int).tmod 2=1:=fun h=>hodd (hrem.1 h)
     rw [if_neg hodd] at htt
     rw [htt] at *
     simp (disch:=first|omega|simp<;>omega|fail)[intV,intL,hr1]
     refine jo_in ?_
     simp (disch:=first|omega|simp<;>omega|fail)[hr1,intL]
     simp (disch:=first|omega|simp<;>omega|fail)[intL] at tail
     exact tail
end Go.Vm
