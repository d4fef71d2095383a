/- ref03: divide. -/
import Derived.Test.YtbdajblfnkoagaaGreatDoorQDcY
import Derived.Test.YtbdajblfnkoagaaGreatDoorQRefFrac
import Derived.Test.YtbdajblfnkoagaaGreatDoorQT
set_option linter.unusedVariables false
set_option linter.unusedSimpArgs false
namespace Go.Vm
open Go Go.Am Go.Big
def isR (v:V) (r:Nat):Prop:=v=nat9 r∨(v=.d (.pl (.slice none 0 0))∧r=0)
def rH (o:List Nat) (y1 y2:Nat × Bk):Hp:=[(1,.data 1 (o.map i9) true false),y1,y2]
theorem div_front {o:List Nat} {x r:Nat} {rv:V} (hrv:isR rv r) (hx:x < Z) (hr:len9 r < 100000000) {k:V→Hp→Prop} {u:PU fun v8 h=>bnd (bld [(0,1),(1,1)] [.bool false,.pl (.slice none 0 0)] [(1,v8)]) fun v9 =>
   cal (CX Y).p h (.fn F.schismaref03_trim [] []) [v9] fun v10 h =>
   bnd (fiV 1 1 true v10) fun v11=>k v11 h} (hk:∀ y1 y2:Nat × Bk,k (nat9 (x+Z * r)) (rH o y1 y2)) :
  rh (apV false 2 1 8 (.ref 1 1 0 1 1 1) rv ((rH o (0,.none) (0,.none)).set 1 (1,.data 1 [i9 x] true false))) (fun v8 h =>
   bnd (bld [(0,1),(1,1)] [.bool false,.pl (.slice none 0 0)] [(1,v8)]) fun v9 =>
   cal (CX Y).p h (.fn F.schismaref03_trim [] []) [v9] fun v10 h =>
   bnd (fiV 1 1 true v10) fun v11=>k v11 h) u:=by
 have hsm:Small Z (x :: dig Z r):=fun y hy=>by
  rcases List.mem_cons.1 hy with rfl | hy
  ·exact hx
  ·exact dig_small two_le_Z r y hy
 have hval:val Z (x :: dig Z r)=x+Z * r:=by simp only [val,val_dig two_le_Z]
 have t:=trim9_ok (s:=false) hsm (by simp; unfold len9 at hr; omega)
 rw [hval] at t
 have hli:∀ h:Hp,lisR 1 [D.int .i64 0] [(0,I x)] h=some ([i9 x],h):=fun h=>by
  simp [lisR,repl,toDs,toD,i9]
 have fin:∀ (s m:Nat) (y1 y2 z1 z2:Nat × Bk),snap (rH o y1 y2) (.ref s 1 0 m m m)=some (lst i9 (x :: dig Z r),rH o z1 z2)→(bnd (bld [(0,1),(1,1)] [.bool false,.pl (.slice none 0 0)] [(1,.ref s 1 0 m m m)]) fun v9 =>
   cal (CX Y).p (rH o y1 y2) (.fn F.schismaref03_trim [] []) [v9] fun v10 h =>
   bnd (fiV 1 1 true v10) fun v11=>k v11 h):=by
  intro s m y1 y2 z1 z2 hs
  simp (disch:=first|omega|simp<;>omega|fail)[]
  refine cdz (ds:=[.agg [.d (.bool false),lst i9 (x :: dig Z r)]]) (h':=rH o z1 z2) (by simp only [snaps]; rw [show snap (rH o y1 y2) (.agg [.d (.bool false),.ref s 1 0 m m m])=some (.agg [.d (.bool false),lst i9 (x :: dig Z r)],rH o z1 z2) by simp only [snap,snaps]; simp only [snap] at hs; rw [hs]; rfl]) t ?_
  simp (disch:=first|omega|simp<;>omega|fail)[wh]
  exact hk z1 z2
 have s1:snap (rH o (1,.data 1 [i9 x] true false) (0,.none)) (.ref 1 1 0 1 1 1)=some (lst i9 [x],rH o (1,.data 1 [i9 x] true true) (0,.none)):=by
  simp [snap,toD,rH,hget,lst]
 rcases hrv with rfl | ⟨rfl,rfl⟩
 ·refine ap_lisP (L:=1) (k:=(dig Z r).length) (cs:=(dig Z r).map i9) (old:=[i9 x]) (e':=0) (b':=.none) rfl rfl rfl rfl (by simp) (by unfold len9 at hr; omega) (fun h=>?_) fun h=>?_
  ·have:dig Z r=[]:=List.eq_nil_of_length_eq_zero h
   rw [this] at fin
   exact fin 1 1 _ _ _ _ s1
  ·have e1:1 * 1+((dig Z r).map i9).length=1+(dig Z r).length:=by simp
   rw [e1]
   refine fin 2 (1+(dig Z r).length) (1,.data 1 [i9 x] true false) (1,.data 1 ([i9 x]++(dig Z r).map i9) false false) (1,.data 1 [i9 x] true false) (1,.data 1 ([i9 x]++(dig Z r).map i9) false true) ?_
   simp [snap,toD,rH,hget,lst,Nat.add_comm]
   rw [List.take_of_length_le (by simp; omega)]
 ·rw [dig_zero] at fin
  unfold rh apV
  simp only [cellsOf]
  rw [if_pos (by simp)]
  unfold apC
  rw [if_pos rfl]
  simp only [Nat.le_refl,if_true]
  exact fin 1 1 _ _ _ _ s1
@[simp] theorem fillP_lst {α:Type} (f:α→D) (l:List α) (place:Nat→Option (Nat × Nat)) (cs:List V) (r:List (Nat × V)) (off sz:Nat) :
  fillP (some (off,sz)) place cs (lst f l) r=if 1=sz∧off+1≤cs.length then fillX place (cs.take off++[lst f l]++cs.drop (off+1)) r else none:=id rfl
theorem times9_ok {b d:Nat} (hb:len9 b < 100000000) (hd:d < Z):CP Y F.schismaref03_times [nat9 b,I d] (nat9 (b * d)):=by
 refine schismaref03_times_i ?_
 have hsm:Small Z [d]:=fun x hx=>by simp at hx; omega
 have t:=trim9_ok (s:=false) hsm (by simp)
 rw [show val Z [d]=d by simp [val]] at t
 have hli:∀ h:Hp,lisR 1 [D.int .i64 0] [(0,I d)] h=some ([i9 d],h):=fun h=>by
  simp [lisR,repl,toDs,toD,i9]
 have m:=mulW_ok (x:=b) (y:=d) (by simp; omega) (by simp; have:=len9_le (n:=d) (k:=1) (by simpa using hd); omega)
 have e1:intW (b:Int)=wh false b:=wh_eq (by simp) (by simp)
 have e2:intW (d:Int)=wh false d:=wh_eq (by simp) (by simp)
 have e3:intW ((b:Int) * (d:Int))=wh false (b * d):=by
  exact wh_eq (by simp; exact Int.mul_nonneg (by omega) (by omega)) (by rw [Int.natAbs_mul]; simp)
 rw [e1,e2,e3] at m
 simp (disch:=first|omega|simp<;>omega|fail)[schismaref03_times,nat9,hli]
 refine cd (args:=[.agg [.d (.bool false),lst i9 [d]]]) t ?_ (by simp [snaps,snap])
 simp (disch:=first|omega|simp<;>omega|fail)[wh,nat9]
 refine cd (args:=[wh false b,wh false d]) m ?_ (by simp [snaps,snap,wh,nat9])
 simp (disch:=first|omega|simp<;>omega|fail)[wh,nat9]
 exact out_lst ..
theorem half_loop {b n:Nat} (hb:0 < b) (hbl:len9 b < 100000000) (hnl:len9 n < 100000000) (k:KL) (H h0:Hp) (hh:h0.length=H.length):∀ (N lo hi:Nat),hi≤lo+N→lo < hi→hi≤Z→lo * b≤n→n < hi * b→k (.exit 2) [I (n / b:Nat)] H →
  lp (schismaref03_divide_l1 (CX Y) (nat9 b) (nat9 n)) [] h0 [I lo,I hi] H k:=by
 intro N
 induction N with
 | zero=>intro lo hi h1 h2; omega
 | succ N ih =>
  intro lo hi h1 h2 h3 h4 h5 hk
  have hZ:Z=1000000000:=rfl
  by_cases g:(1:Int) < (hi:Int) - lo
  ·obtain ⟨mid,hm⟩:∃ m,(lo+hi) / 2=m:=⟨_,rfl⟩
   have e1:((lo:Int)+(hi:Int)) / 2=(mid:Int):=by omega
   have hmZ:mid < Z:=by omega
   have t:=times9_ok (b:=b) (d:=mid) hbl hmZ
   have hlb:len9 (b * mid) < 2 ^ 40:=by
    have h6:b * mid < Z ^ (len9 b+1):=by
     rw [Nat.pow_succ]
     exact Nat.mul_lt_mul_of_lt_of_lt (lt_dig b) hmZ
    have:=len9_le h6
    have h40:(2:Nat) ^ 40=1099511627776:=by decide
    omega
   have h40:(2:Nat) ^ 40=1099511627776:=by decide
   have ab:=above_ok (a:=b * mid) (b:=n) hlb (by omega)
   by_cases hle:b * mid≤n
   ·have hc:cmp (b * mid) n≤0:=by unfold cmp; split; decide; rw [if_neg (by omega)]; decide
    have ihh:=ih mid hi (by omega) (by omega) h3 (by rw [Nat.mul_comm]; exact hle) h5 hk
    refine lp_in ?_
    have hhib:hi≤1000000000:=by omega
    simp (disch:=first|omega|simp<;>omega|fail)[schismaref03_divide_l1,g,Int.tdiv_eq_ediv_of_nonneg,e1]
    refine jo_in ?_
    simp (disch:=first|omega|simp<;>omega|fail)[Int.tdiv_eq_ediv_of_nonneg,e1]
    refine cd t ?_ (by simp [snaps,nat9])
    simp (disch:=first|omega|simp<;>omega|fail)[]
    refine cd ab ?_ (by simp [snaps,nat9])
    simp (disch:=first|omega|simp<;>omega|fail)[hc]
    refine jo_in ?_
    simp (disch:=first|omega|simp<;>omega|fail)[hc,hh]
    exact ihh
   ·have hc:¬ cmp (b * mid) n≤0:=by unfold cmp; rw [if_neg (by omega),if_pos (by omega)]; decide
    have ihh:=ih lo mid (by omega) (by omega) (by omega) h4 (by rw [Nat.mul_comm]; omega) hk
    refine lp_in ?_
    have hhib:hi≤1000000000:=by omega
    simp (disch:=first|omega|simp<;>omega|fail)[schismaref03_divide_l1,g,Int.tdiv_eq_ediv_of_nonneg,e1]
    refine jo_in ?_
    simp (disch:=first|omega|simp<;>omega|fail)[Int.tdiv_eq_ediv_of_nonneg,e1]
    refine cd t ?_ (by simp [snaps,nat9])
    simp (disch:=first|omega|simp<;>omega|fail)[]
    refine cd ab ?_ (by simp [snaps,nat9])
    simp (disch:=first|omega|simp<;>omega|fail)[hc]
    refine jo_in ?_
    simp (disch:=first|omega|simp<;>omega|fail)[hc,hh]
    exact ihh
  ·have e:n / b=lo:=by
    have:hi=lo+1:=by omega
    subst this
    refine Nat.div_eq_of_lt_le h4 ?_
    exact h5
   rw [e] at hk
   refine lp_in ?_
   simp (disch:=first|omega|simp<;>omega|fail)[schismaref03_divide_l1,g]
   exact hk
theorem rH_get (o:List Nat) (y1 y2:Nat × Bk):(rH o y1 y2)[0]? = some (1,.data 1 (o.map i9) true false):=rfl
theorem div9_loop {al:List Nat} {b N:Nat} (hsa:Small Z al) (hal:al.length < 10000000) (hN:N=al.length) (hb:0 < b) (hbl:len9 b < 10000000) (o0:List Nat) (k:KL) :
  ∀ (i:Nat) (o:List Nat) (r:Nat) (rv:V),i≤al.length→o.length=N→Small Z o→isR rv r→r < b→val Z (al.drop i)=b * val Z (o.drop i)+r→(∀ j,j < i→nth 0 o j=0) →
  (∀ o' r' rv',o'.length=N→Small Z o'→isR rv' r'→r' < b→val Z al=b * val Z o'+r'→k (.exit 0) [rv'] (rH o' (0,.none) (0,.none))) →
  lp (schismaref03_divide_l0 (CX Y) (lst i9 al) (nat9 b) (.ref 0 1 0 N N N)) [1,2] (rH o0 (0,.none) (0,.none)) [rv,I ((i:Int) - 1)] (rH o (0,.none) (0,.none)) k
 | 0,o,r,rv,hi,ho,hso,hrv,hr,hv,hz,hk=>by
  refine lp_in ?_
  simp (disch:=first|omega|simp<;>omega|fail)[schismaref03_divide_l0]
  exact hk o r rv ho hso hrv hr (by simpa using hv)
 | i+1,o,r,rv,hi,ho,hso,hrv,hr,hv,hz,hk=>by
  have hZ:Z=1000000000:=rfl
  obtain ⟨x,hx⟩:∃ x,nth 0 al i=x:=⟨_,rfl⟩
  have hxs:x < Z:=by rw [← hx]; exact hsa.getD Z_pos i
  have e1:=fun h:Hp=>ix_nth i9 al h (k:=.i64) (i:=(i:Int)) (by omega) (by omega)
  have e2:=fun h:Hp=>ld_nth i9 0 al h (j:=i) (by omega)
  rw [hx] at e2
  simp only [Int.toNat_natCast] at e1
  have e0:((i+1:Nat):Int) - 1=(i:Int):=by omega
  have hli:∀ h:Hp,lisR 1 [D.int .i64 0] [(0,I x)] h=some ([i9 x],h):=fun h=>by
   simp [lisR,repl,toDs,toD,i9]
  have hg1:(rH o (0,Bk.none) (0,Bk.none))[1]? = some (0,.none):=rfl
  have hlr:len9 r < 100000000:=by
   have:=len9_le (n:=r) (k:=len9 b) (Nat.lt_trans hr (lt_dig b))
   omega
  obtain ⟨n,hn⟩:∃ n,x+Z * r=n:=⟨_,rfl⟩
  obtain ⟨q,hq⟩:∃ q,n / b=q:=⟨_,rfl⟩
  obtain ⟨r2,hr2⟩:∃ r2,n % b=r2:=⟨_,rfl⟩
  have hdm:b * q+r2=n:=by rw [← hq,← hr2]; exact Nat.div_add_mod n b
  have hr2b:r2 < b:=by rw [← hr2]; exact Nat.mod_lt _ hb
  have hnZb:n < Z * b:=by
   rw [← hn]
   have:=Nat.mul_le_mul_left Z (show r+1≤b by omega)
   rw [Nat.mul_add] at this
   omega
  have hqZ:q < Z:=by rw [← hq]; exact Nat.div_lt_of_lt_mul (by rw [Nat.mul_comm]; exact hnZb)
  have hln:len9 n < 20000000:=by
   have:n < Z ^ (len9 b+1):=by
    rw [Nat.pow_succ,Nat.mul_comm]
    exact Nat.lt_trans hnZb (Nat.mul_lt_mul_of_pos_left (lt_dig b) Z_pos)
   have:=len9_le this
   omega
  have hdr:(o.set i q).drop i=q :: o.drop (i+1):=by
   rw [List.drop_set,if_neg (by omega),Nat.sub_self]
   rw [List.drop_eq_getElem_cons (show i < o.length by omega)]
   rfl
  have go:∀ rv',isR rv' r2→∀ y1 y2:Nat × Bk,lp (schismaref03_divide_l0 (CX Y) (lst i9 al) (nat9 b) (.ref 0 1 0 N N N)) [1,2] (rH o0 (0,.none) (0,.none)) [rv',I ((i:Int) - 1)] (rH (o.set i q) (0,.none) (0,.none)) k:=fun rv' hrv' _ _ =>
   div9_loop hsa hal hN hb hbl o0 k i (o.set i q) r2 rv' (by omega) (by simpa using ho) (hso.set hqZ) hrv' hr2b (by
    rw [val_drop,show al.getD i 0=x from hx,hv,hdr]
    simp only [val]
    rw [Nat.mul_add,Nat.mul_add,Nat.mul_left_comm b Z]
    omega) (fun j hj=>by rw [nth_set_ne (by omega)]; exact hz j (by omega)) hk
  clear hk
  have hst:∀ y1 y2:Nat × Bk,ixV (rH o y1 y2) 1 (.ref 0 1 0 N N N) (I i)=some (.ptr 0 1 i N):=fun y1 y2=>ixB (rH_get o y1 y2) ho (by omega) .i64
  have hst2:∀ y1 y2:Nat × Bk,st (rH o y1 y2) 1 (.ptr 0 1 i N) (I q)=some (rH (o.set i q) y1 y2):=fun y1 y2=>stB (f:=i9) (rH_get o y1 y2) ho (by omega) rfl
  have h40:(2:Nat) ^ 40=1099511627776:=by decide
  have ab:=above_ok (a:=n) (b:=b) (by omega) (by omega)
  have hreset:∀ (o':List Nat) (y1 y2:Nat × Bk),resetGo [1,2] 0 (rH o0 (0,.none) (0,.none)) (rH o' y1 y2)=rH o' (0,.none) (0,.none):=fun o' y1 y2=>rfl
  have hclean:∀ (rv':V) (o':List Nat) (y1 y2:Nat × Bk),offS [1,2] rv'=true→clean [1,2] [rv',I ((i:Int) - 1)] (rH o' y1 y2)=true:=fun rv' o' y1 y2 hrv'=>by
   simp only [clean,offSs,hrv',Bool.true_and]
   simp [rH,offH,offB,offS,notIn]
  refine lp_in ?_
  rw [e0]
  simp (disch:=first|omega|simp<;>omega|fail)[schismaref03_divide_l0]
  refine jo_in ?_
  simp (disch:=first|omega|simp<;>omega|fail)[e1,e2,hli,hg1]
  refine div_front hrv hxs hlr fun y1 y2=>?_
  rw [hn]
  refine cd (u:=.mk) ab ?_ (by simp [snaps,nat9])
  by_cases hnb:n < b
  ·have hc:cmp n b < 0:=by unfold cmp; rw [if_pos hnb]; decide
   have q0:q=0:=by rw [← hq]; exact Nat.div_eq_of_lt hnb
   have r0:r2=n:=by rw [← hr2]; exact Nat.mod_eq_of_lt hnb
   have hset:o.set i q=o:=by
    rw [q0]
    refine set_idn ?_
    have:=hz i (by omega)
    rw [nth_eq _ _ _ (by omega)] at this
    rw [List.getElem?_eq_getElem (by omega),this]
   have gg:=go (nat9 n) (.inl (by rw [r0])) (0,.none) (0,.none)
   rw [hset] at gg
   simp (disch:=first|omega|simp<;>omega|fail)[hc]
   exact ⟨hclean _ _ _ _ rfl,by rw [hreset]; exact gg⟩
  ·have hc:¬ cmp n b < 0:=by unfold cmp; rw [if_neg hnb]; split <;> decide
   have gg:=go (nat9 r2) (.inl rfl) (0,.none) (0,.none)
   have ln:lenV (nat9 n)=some (I (len9 n)):=rfl
   by_cases h1:len9 n=1
   ·have h1i:(len9 n:Int)=1:=by omega
    have hnZ:n < Z:=by have:=lt_dig n; unfold len9 at h1; rw [h1,Nat.pow_one] at this; exact this
    have d1:∀ m:Nat,0 < m→m < Z→dig Z m=[m]:=fun m hm hmZ=>by
     have h2:=dig_val two_le_Z (l:=[m]) (fun x hx=>by simp at hx; omega)
     rw [show val Z [m]=m by simp [val],show trimL [m]=[m] by simp [trimL]; omega] at h2
     exact h2
    have ixn:∀ (m:Nat) (h:Hp),0 < m→m < Z→ixV h 1 (nat9 m) (I 0)=some (.dptr [i9 m] 0):=fun m h hm hmZ=>by
     rw [nat9,d1 m hm hmZ]; exact ix_nth i9 [m] h (k:=.i64) (i:=0) (by omega) (by simp)
    have ldn:∀ (m:Nat) (h:Hp),ld1 h (.dptr [i9 m] 0)=some (I m):=fun m h=>rfl
    have n0:0 < n:=by omega
    have xn:=fun h=>ixn n h n0 hnZ
    have xb:=fun h=>ixn b h hb (by omega)
    have hb0:¬ ((b:Int)=0):=by omega
    have hb0':¬ (b=0):=by omega
    have f1:(n:Int) / (b:Int)=(q:Int):=by rw [← hq]; simp
    have f2:(n:Int) % (b:Int)=(r2:Int):=by rw [← hr2]; simp
    have hli2:∀ h:Hp,lisR 1 [D.int .i64 0] [(0,I r2)] h=some ([i9 r2],h):=fun h=>by
     simp [lisR,repl,toDs,toD,i9]
    have hnb2:n < 1000000000:=by omega
    have hqb:q < 1000000000:=by omega
    have t:=trim9_ok (s:=false) (l:=[r2]) (fun x hx=>by simp at hx; omega) (by simp)
    rw [show val Z [r2]=r2 by simp [val]] at t
    have s2:=hst2 y1 y2
    have s1:=hst y1 y2
    simp (disch:=first|omega|simp<;>omega|fail)[hc,ln,h1i,h1,xn,xb,ldn,hb0,hb0',Int.tdiv_eq_ediv_of_nonneg,Int.tmod_eq_emod_of_nonneg,f1,f2,hli2]
    refine cd (args:=[.agg [.d (.bool false),lst i9 [r2]]]) t ?_ (by simp [snaps,snap])
    simp (disch:=first|omega|simp<;>omega|fail)[wh,s1,s2]
    exact ⟨hclean _ _ _ _ rfl,by rw [hreset]; exact gg⟩
   ·have h1i:¬ (len9 n:Int)=1:=by omega
    have hbq:b * q≤n:=by omega
    have t9:=times9_ok (b:=b) (d:=q) (by omega) hqZ
    have mi:=minus9_ok (a:=n) (b:=b * q) hbq (by omega)
    have hsub:n - b * q=r2:=by omega
    rw [hsub] at mi
    have hr2n:r2 < Z ^ len9 n:=Nat.lt_of_le_of_lt (show r2≤n by omega) (lt_dig n)
    have t:=trim9_fix false (w:=len9 n) (n:=r2) (by omega) hr2n
    have s2:=hst2 y1 y2
    have s1:=hst y1 y2
    simp (disch:=first|omega|simp<;>omega|fail)[hc,ln,h1i,h1]
    refine lo (half_loop hb (by omega) (by omega) _ _ _ rfl Z 0 Z (by omega) Z_pos (Nat.le_refl _) (by omega) hnZb ?_)
    rw [hq]
    simp (disch:=first|omega|simp<;>omega|fail)[]
    refine cd t9 ?_ (by simp [snaps,nat9])
    simp (disch:=first|omega|simp<;>omega|fail)[]
    refine cd mi ?_ (by simp [snaps,nat9])
    simp (disch:=first|omega|simp<;>omega|fail)[]
    refine cd (args:=[.agg [.d (.bool false),lst i9 (fixZ (len9 n) r2)]]) t ?_ (by simp [snaps,snap])
    simp (disch:=first|omega|simp<;>omega|fail)[wh,s1,s2]
    exact ⟨hclean _ _ _ _ rfl,by rw [hreset]; exact gg⟩
end Go.Vm
