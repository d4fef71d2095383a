/- Natural numbers of the checker: shift. -/
import Derived.Test.YtbdajblfnkoagaaGreatDoorQCkBits
import Derived.Test.YtbdajblfnkoagaaGreatDoorQWalk
set_option linter.unusedVariables false
set_option linter.unusedSimpArgs false
namespace Go.Vm
open Go Go.Am Go.Big
theorem biI_or {a b:Nat} (ha:a < 4294967296) (hb:b < 4294967296):biI .or (.d (.int .u32 a)) (.d (.int .u32 b))=some (.d (.int .u32 ((a ||| b:Nat):Int))):=by
 have h:a ||| b < 2 ^ 32:=Nat.or_lt_two_pow (n:=32) ha hb
 have ea:(BitVec.ofInt 32 (a:Int)).toNat=a:=by simp [BitVec.toNat_ofInt]; omega
 have eb:(BitVec.ofInt 32 (b:Int)).toNat=b:=by simp [BitVec.toNat_ofInt]; omega
 have e:(BitVec.ofInt 32 (a:Int) ||| BitVec.ofInt 32 (b:Int)).toNat=a ||| b:=by rw [BitVec.toNat_or,ea,eb]
 show ofVal (some (Value.int .u32 (IntKind.wrap .u32 ((BitVec.ofInt 32 (a:Int) ||| BitVec.ofInt 32 (b:Int)).toNat:Int))))=_
 rw [e,wrap_u32'' (by omega) (by omega)]
 rfl
theorem or_add {c j t:Nat} (h:c < 2 ^ j):c ||| (2 ^ j * t)=c+2 ^ j * t:=by
 rw [Nat.or_comm,← Nat.two_pow_add_eq_or_of_lt h,Nat.add_comm]
theorem lt_W {x:Nat} (h:x < W):x < 4294967296:=h
def shH (o:List Nat):Hp:=[(1,.data 1 (o.map u32) false false),(0,.none)]
@[simp] theorem shH_len (o:List Nat):List.length (shH o)=2:=id rfl
theorem shI {o:List Nat} {n i:Nat} (hn:o.length=n) (hi:i < n):ixV (shH o) 1 (.ref 0 1 0 n n n) (.d (.int .i64 (i:Int)))=some (.ptr 0 1 i n):=ixB rfl hn hi _
theorem shL {o:List Nat} {n i:Nat} (hn:o.length=n) (hi:i < n):ld1 (shH o) (.ptr 0 1 i n)=some (.d (.int .u32 ((nth 0 o i:Nat):Int))):=ldB 0 (f:=u32) rfl hn hi
theorem shS {o:List Nat} {n i x:Nat} (hn:o.length=n) (hi:i < n):st (shH o) 1 (.ptr 0 1 i n) (.d (.int .u32 (x:Int)))=some (shH (o.set i x)):=stB (f:=u32) rfl hn hi (x:=x) rfl
theorem shr_loop {L:List Nat} (hL:Small W L) (hLl:L.length < 1000000000000) {w r n:Nat} (hr:r < 32) (k:KL) (h0:Hp) (hh:h0.length=2):∀ (q p d:List Nat),L.drop w=p++q→d.length=p.length→(p++q).length=n →
  k (.exit 0) [] (shH (d++shrL r q)) →
  lp (checker_shift_l0 (CX Y) (lst u32 L) (I w) (.d (.int .u64 r)) (.ref 0 1 0 n n n) (I n)) [] h0 [I p.length] (shH (d++q)) k
 | []=>by
  intro p d hp hd hn hk
  simp at hn
  refine lp_in ?_
  simp (disch:=first|omega|simp<;>omega|fail)[checker_shift_l0]
  simpa [shrL] using hk
 | x :: q=>by
  intro p d hp hd hn hk
  have hsub:∀ y ∈ p++x :: q,y < W:=fun y hy=>hL y (List.mem_of_mem_drop (by rw [hp]; exact hy))
  have hx:=lt_W (hsub x (by simp))
  have hwl:w+(p.length+(q.length+1))≤L.length:=by
   have:=congrArg List.length hp
   simp at this
   omega
  simp at hn
  have hp2:=Nat.two_pow_pos r
  have hdx:x / 2 ^ r < 4294967296:=Nat.lt_of_le_of_lt (Nat.div_le_self _ _) hx
  have hset:∀ y z,(d++y :: q).set p.length z=d++z :: q:=fun y z=>by rw [← hd,List.set_append_right _ _ (Nat.le_refl _)]; simp
  have hnth:∀ y,nth 0 (d++y :: q) p.length=y:=fun y=>by rw [← hd]; simp
  have hdl:∀ y,(d++y :: q).length=n:=fun y=>by simp; omega
  have ih:=shr_loop hL hLl hr k h0 hh q (p++[x]) (d++[x / 2 ^ r+(2 ^ (32 - r) * q.headD 0) % 4294967296]) (by simpa using hp) (by simp [hd]) (by simp; omega) (by simpa [shrL] using hk)
  have hxr:(x:Int) / 2 ^ r=((x / 2 ^ r:Nat):Int):=by simp
  obtain ⟨z,hz⟩:∃ z,x / 2 ^ r=z:=⟨_,rfl⟩
  rw [hz] at hxr hdx ih
  have sI:=fun y=>shI (hdl y) (i:=p.length) (by omega)
  have sL:=fun y=>shL (hdl y) (i:=p.length) (by omega)
  have sS:=fun y z=>shS (x:=z) (hdl y) (i:=p.length) (by omega)
  simp only [hset,hnth] at sL sS
  refine lp_in ?_
  by_cases hq:q=[]
  ·subst hq
   simp only [List.headD_nil,Nat.mul_zero,Nat.zero_mod,Nat.add_zero,shrL] at ih hk
   have hnn:¬ ((p.length:Int)+1 < n):=by simp at hn; omega
   simp (disch:=first|omega|simp<;>omega|fail)[checker_shift_l0]
   refine jo_in ?_
   simp (disch:=first|omega|simp<;>omega|fail)[sI,sL,sS,hxr,hnn]
   refine jo_to (l:=[]) (h:=shH (d++[z])) (fun q=>?_) ?_
   ·simp (disch:=first|omega|simp<;>omega|fail)[]
   simp (disch:=first|omega|simp<;>omega|fail)[hh]
   simpa using ih
  ·obtain ⟨y,t,rfl⟩:∃ y t,q=y :: t:=by cases q with
    | nil=>exact absurd rfl hq
    | cons y t=>exact ⟨y,t,rfl⟩
   have hnn:(p.length:Int)+1 < n:=by simp at hn; omega
   have hy:=lt_W (hsub y (by simp))
   simp only [List.headD_cons] at ih
   by_cases hr0:r=0
   ·subst hr0
    have e0:(2 ^ (32 - 0) * y) % 4294967296=0:=by omega
    rw [e0,Nat.add_zero] at ih
    simp (disch:=first|omega|simp<;>omega|fail)[checker_shift_l0]
    refine jo_in ?_
    have hzx:z=x:=by simpa using hz.symm
    subst hzx
    simp (disch:=first|omega|simp<;>omega|fail)[sI,sL,sS,hxr,hnn]
    refine jo_to (l:=[]) (h:=shH (d++z :: y :: t)) (fun q=>?_) ?_
    ·simp (disch:=first|omega|simp<;>omega|fail)[]
    simp (disch:=first|omega|simp<;>omega|fail)[hh]
    simpa using ih
   ·obtain ⟨m,hm⟩:∃ m,m=w+p.length+1:=⟨_,rfl⟩
    have e1:((w:Int)+(p.length:Int)+1)=(m:Int):=by omega
    have hLy:nth 0 L m=y:=by
     have hw:(L.drop w)[p.length+1]? = some y:=by rw [hp]; simp
     rw [List.getElem?_drop] at hw
     unfold nth
     rw [List.getD_eq_getElem?_getD,hm,Nat.add_assoc,hw]
     rfl
    have eI:=ix_nth u32 L (shH (d++z :: y :: t)) (k:=.i64) (i:=(m:Int)) (by omega) (by simp at hwl; omega)
    have eL:=ld_u32 L (shH (d++z :: y :: t)) (j:=m) (by simp at hwl; omega)
    rw [hLy] at eL
    obtain ⟨s,hs⟩:∃ s,32 - r=s:=⟨_,rfl⟩
    have es:((32:Int) - (r:Int))=(s:Int):=by omega
    have hsh:IntKind.wrap .u32 ((y:Int) * 2 ^ s)=((2 ^ s * y % 4294967296:Nat):Int):=by
     rw [wrap_u32',Nat.mul_comm]; simp
    have hor:z ||| (2 ^ s * y % 4294967296)=z+2 ^ s * y % 4294967296:=by
     have h32:2 ^ s * 2 ^ r=4294967296:=by rw [← hs,Nat.mul_comm]; exact split32 (by omega)
     rw [← h32,Nat.mul_mod_mul_left]
     refine or_add ?_
     rw [← hz]
     exact Nat.div_lt_of_lt_mul (by rw [Nat.mul_comm,h32]; exact hx)
    rw [hs] at ih
    obtain ⟨v,hv⟩:∃ v,2 ^ s * y % 4294967296=v:=⟨_,rfl⟩
    have hv32:v < 4294967296:=by rw [← hv]; exact Nat.mod_lt _ (by decide)
    rw [hv] at hor ih hsh
    have hob:=biI_or hdx hv32
    obtain ⟨u,hu⟩:∃ u,z+v=u:=⟨_,rfl⟩
    rw [hu] at ih hor
    rw [hor] at hob
    simp (disch:=first|omega|simp<;>omega|fail)[checker_shift_l0]
    refine jo_in ?_
    simp (disch:=first|omega|simp<;>omega|fail)[sI,sL,sS,hxr,hnn]
    refine jo_to (l:=[]) (h:=shH (d++u :: y :: t)) (fun q=>?_) ?_
    ·simp (disch:=first|omega|simp<;>omega|fail)[sI,sL,sS,e1,eI,eL,es,hsh,hob,show 0 < r by omega]
    simp (disch:=first|omega|simp<;>omega|fail)[hh]
    simpa using ih
def slH (o:List Nat):Hp:=[(0,.none),(1,.data 1 (o.map u32) true false)]
@[simp] theorem slH_len (o:List Nat):List.length (slH o)=2:=id rfl
theorem slI {o:List Nat} {n i:Nat} (hn:o.length=n) (hi:i < n):ixV (slH o) 1 (.ref 1 1 0 n n n) (.d (.int .i64 (i:Int)))=some (.ptr 1 1 i n):=ixB rfl hn hi _
theorem slL {o:List Nat} {n i:Nat} (hn:o.length=n) (hi:i < n):ld1 (slH o) (.ptr 1 1 i n)=some (.d (.int .u32 ((nth 0 o i:Nat):Int))):=ldB 0 (f:=u32) rfl hn hi
theorem slSt {o:List Nat} {n i x:Nat} (hn:o.length=n) (hi:i < n):st (slH o) 1 (.ptr 1 1 i n) (.d (.int .u32 (x:Int)))=some (slH (o.set i x)):=stB (f:=u32) rfl hn hi (x:=x) rfl
theorem shl_loop {L:List Nat} (hL:Small W L) (hLl:L.length < 1000000000000) {w r N:Nat} (hw:w < 1000000000000) (hr:r < 32) (hN:N=w+L.length+1) (k:KL) (h0:Hp) (hh:h0.length=2):∀ (q p d:List Nat) (c:Nat),L=p++q→d.length=p.length→Small W d→c < 2 ^ r→val W (d++[c])=val W p * 2 ^ r →
  (∀ o:List Nat,o.length=N→Small W o→val W o=W ^ w * (val W L * 2 ^ r)→k (.exit 2) [] (slH o)) →
  lp (checker_shift_l1 (CX Y) (I w) (.d (.int .u64 r)) (.ref 1 1 0 N N N) (lst u32 L) (I L.length)) [] h0 [I p.length] (slH (List.replicate w 0++(d++c :: List.replicate q.length 0))) k
 | []=>by
  intro p d c hp hd hs hc hv hk
  simp at hp
  subst hp
  refine lp_in ?_
  simp (disch:=first|omega|simp<;>omega|fail)[checker_shift_l1]
  have h32:2 ^ r < W:=by
   have:2 ^ r < 2 ^ 32:=Nat.pow_lt_pow_right (by decide) hr
   exact this
  refine hk _ (by simp; omega) ?_ ?_
  ·refine Small.append (fun y hy=>by rw [List.mem_replicate] at hy; rw [hy.2]; exact W_pos) (hs.snoc (by omega))
  ·rw [val_append,val_zeros,List.length_replicate,hv,Nat.zero_add]
 | x :: q=>by
  intro p d c hp hd hs hc hv hk
  have hx:=lt_W (hL x (by subst hp; simp))
  have hpl:p.length < L.length:=by subst hp; simp
  have hLx:nth 0 L p.length=x:=by subst hp; simp
  have hll:L.length=p.length+(q.length+1):=by subst hp; simp
  have h31:2 ^ r≤2147483648:=by
   have:2 ^ r≤2 ^ 31:=Nat.pow_le_pow_right (by decide) (by omega)
   exact this
  obtain ⟨y,hy⟩:∃ y,x * 2 ^ r=y:=⟨_,rfl⟩
  have hyle:y≤4294967295 * 2147483648:=by rw [← hy]; exact Nat.mul_le_mul (by omega) h31
  have hyi:(x:Int) * 2 ^ r=(y:Int):=by rw [← hy]; simp
  obtain ⟨m,hm⟩:∃ m,m=w+p.length:=⟨_,rfl⟩
  have e1:((w:Int)+(p.length:Int))=(m:Int):=by omega
  obtain ⟨m1,hm1⟩:∃ m1,m1=m+1:=⟨_,rfl⟩
  have e2:((m:Int)+1)=(m1:Int):=by omega
  have h2r:=Nat.two_pow_pos r
  have hlow:y % 4294967296=2 ^ r * ((x % 2 ^ (32 - r))):=by
   rw [← hy,← split32 (show r≤32 by omega),Nat.mul_comm x,Nat.mul_mod_mul_left]
  have hor:=or_add (c:=c) (j:=r) (t:=x % 2 ^ (32 - r)) hc
  rw [← hlow] at hor
  have hhi:y / 4294967296 < 2 ^ r:=by
   refine Nat.div_lt_of_lt_mul ?_
   rw [← hy]
   exact Nat.mul_lt_mul_of_pos_right hx h2r
  have hcW:c < 4294967296:=by omega
  have hyW:y % 4294967296 < 4294967296:=Nat.mod_lt _ (by decide)
  have hob:=biI_or hcW hyW
  have huW:c ||| y % 4294967296 < 4294967296:=Nat.or_lt_two_pow (n:=32) hcW hyW
  rw [hor] at hob huW
  obtain ⟨u,hu⟩:∃ u,c+y % 4294967296=u:=⟨_,rfl⟩
  obtain ⟨v,hv2⟩:∃ v,y / 4294967296=v:=⟨_,rfl⟩
  rw [hu] at hob huW
  rw [hv2] at hhi
  have hyi2:(y:Int) % 4294967296=((y % 4294967296:Nat):Int):=by omega
  obtain ⟨y0,hy0⟩:∃ y0,y % 4294967296=y0:=⟨_,rfl⟩
  have hyv:(y:Int) / 4294967296=(v:Int):=by omega
  rw [hy0] at hob hyi2
  have hwr1:IntKind.wrap .u32 (y:Int)=(y0:Int):=by rw [wrap_u32',hyi2]
  have hset1:(List.replicate w 0++(d++c :: 0 :: List.replicate q.length 0)).set m u=List.replicate w 0++(d++u :: 0 :: List.replicate q.length 0):=by
   rw [hm,List.set_append_right _ _ (by simp),List.length_replicate,List.set_append_right _ _ (by omega)]
   rw [show w+p.length - w - d.length=0 by omega]
   rfl
  have hset2:(List.replicate w 0++(d++u :: 0 :: List.replicate q.length 0)).set m1 v=List.replicate w 0++((d++[u])++v :: List.replicate q.length 0):=by
   rw [hm1,hm,List.set_append_right _ _ (by simp; omega),List.length_replicate,List.set_append_right _ _ (by omega)]
   rw [show w+p.length+1 - w - d.length=1 by omega]
   simp
  have hnth:nth 0 (List.replicate w 0++(d++c :: 0 :: List.replicate q.length 0)) m=c:=by
   unfold nth
   rw [List.getD_eq_getElem?_getD,hm,List.getElem?_append_right (by simp),List.length_replicate,List.getElem?_append_right (by omega)]
   rw [show w+p.length - w - d.length=0 by omega]
   rfl
  have hl1:∀ a b:Nat,(List.replicate w 0++(d++a :: b :: List.replicate q.length 0)).length=N:=fun a b=>by simp; omega
  have sI:=fun a b=>slI (hl1 a b) (i:=m) (by omega)
  have sI2:=fun a b=>slI (hl1 a b) (i:=m1) (by omega)
  have sL:=slL (hl1 c 0) (i:=m) (by omega)
  have sS:=slSt (x:=u) (hl1 c 0) (i:=m) (by omega)
  have sS2:=slSt (x:=v) (hl1 u 0) (i:=m1) (by omega)
  rw [hnth] at sL
  rw [hset1] at sS
  rw [hset2] at sS2
  have ih:=shl_loop hL hLl hw hr hN k h0 hh q (p++[x]) (d++[u]) v (by simpa using hp) (by simp [hd]) (hs.snoc huW) hhi (by
   have hW:W=4294967296:=rfl
   rw [val_snoc,hd] at hv
   rw [val_snoc,val_snoc,val_snoc,List.length_append,hd,List.length_singleton,Nat.pow_succ,Nat.add_mul,← hv]
   have e:W ^ p.length * x * 2 ^ r=W ^ p.length * y:=by rw [Nat.mul_assoc,hy]
   rw [e,Nat.mul_assoc,Nat.add_assoc,← Nat.mul_add,Nat.add_assoc,← Nat.mul_add]
   congr 2
   rw [← hu,← hv2,hW,hy0]
   omega) hk
  refine lp_in ?_
  rw [List.length_cons,List.replicate_succ]
  simp (disch:=first|omega|simp<;>omega|fail)[checker_shift_l1,hLx,hyi,e1,e2,sI,sI2,sL,hwr1,hob,sS,sS2,hyv,hh]
  simpa using ih
theorem shl_ok {a n:Nat} (ha:len a < 100000000000) (hn:n < 100000000000):CP Y F.checker_shift [nat a,I n] (nat (a * 2 ^ n)):=by
 refine checker_shift_i ?_
 have hL:=dig_small two_le_W a
 have hv:=val_dig two_le_W a
 unfold len at ha
 unfold nat
 generalize dig W a=L at *
 obtain ⟨w,hw⟩:∃ w,n / 32=w:=⟨_,rfl⟩
 obtain ⟨r,hr⟩:∃ r,n % 32=r:=⟨_,rfl⟩
 have e1:(n:Int).tdiv 32=(w:Int):=by rw [Int.tdiv_eq_ediv_of_nonneg (by omega)]; omega
 have e2:(n:Int).tmod 32=(r:Int):=by rw [Int.tmod_eq_emod_of_nonneg (by omega)]; omega
 have hr32:r < 32:=by omega
 obtain ⟨N,hN⟩:∃ N,N=w+L.length+1:=⟨_,rfl⟩
 have e3:((w:Int)+(L.length:Int)+1)=(N:Int):=by omega
 simp (disch:=first|omega|simp<;>omega|fail)[checker_shift,e1,e2,e3]
 have e0:List.replicate N (D.int IntKind.u32 0)=(List.replicate w 0++([]++0 :: List.replicate L.length 0)).map u32:=by
  have:List.replicate w 0++([]++0 :: List.replicate L.length 0)=List.replicate N 0:=by
   rw [List.nil_append,← List.replicate_succ,List.replicate_append_replicate]; congr 1; omega
  rw [this]; simp [u32]
 rw [e0]
 refine lo (shl_loop hL (by omega) (w:=w) (by omega) hr32 hN _ _ rfl L [] [] 0 rfl rfl (fun x hx=>by simp at hx) (Nat.two_pow_pos r) (by simp [val]) fun o h1 h2 h3=>?_)
 have hval:val W o=a * 2 ^ n:=by
  have hn32:n=32 * w+r:=by omega
  have hWw:W ^ w=2 ^ (32 * w):=by rw [Nat.pow_mul]; rfl
  rw [h3,hv,hWw,hn32,Nat.pow_add,Nat.mul_left_comm]
 have h50:(2:Nat) ^ 50=1125899906842624:=by decide
 have ht:=trim_ok h2 (by omega)
 rw [hval] at ht
 simp (disch:=first|omega|simp<;>omega|fail)[slH]
 refine cdz (ds:=[lst u32 o]) (h':=[(0,.none),(1,.data 1 (o.map u32) true true)]) ?_ ht ?_
 ·simp [snaps,snap,toD,hget,h1,lst]
  rw [List.take_of_length_le (by simp [h1])]
 ·exact out_lst ..
theorem shr_ok {a n:Nat} (ha:len a < 100000000000) (h0:0 < n) (hn:n < 100000000000):CP Y F.checker_shift [nat a,I (-(n:Int))] (nat (a / 2 ^ n)):=by
 refine checker_shift_i ?_
 have hL:=dig_small two_le_W a
 have hv:=val_dig two_le_W a
 have hlt:a < W ^ (dig W a).length:=(dig_len two_le_W).1 (Nat.le_refl _)
 unfold len at ha
 unfold nat
 generalize dig W a=L at *
 obtain ⟨w,hw⟩:∃ w,n / 32=w:=⟨_,rfl⟩
 obtain ⟨r,hr⟩:∃ r,n % 32=r:=⟨_,rfl⟩
 have e1:(n:Int).tdiv 32=(w:Int):=by rw [Int.tdiv_eq_ediv_of_nonneg (by omega)]; omega
 have e2:(n:Int).tmod 32=(r:Int):=by rw [Int.tmod_eq_emod_of_nonneg (by omega)]; omega
 have hr32:r < 32:=by omega
 have hWw:W ^ w=2 ^ (32 * w):=by rw [Nat.pow_mul]; rfl
 have hn32:n=32 * w+r:=by omega
 have hneg : -(n:Int) < 0:=by omega
 by_cases hwl:L.length≤w
 ·simp (disch:=first|omega|simp<;>omega|fail)[checker_shift,e1,e2]
  have hz:a / 2 ^ n=0:=by
   refine Nat.div_eq_of_lt (Nat.lt_of_lt_of_le hlt ?_)
   have h1:W ^ L.length≤W ^ w:=Nat.pow_le_pow_right W_pos hwl
   have h2:2 ^ (32 * w)≤2 ^ n:=Nat.pow_le_pow_right (by decide) (by omega)
   omega
  rw [hz,dig_zero]
  exact ⟨_,by simp [lst]; rfl⟩
 ·have hdl:0 < (L.drop w).length:=by simp; omega
  have hdn:(L.drop w).length < 1000000000000:=by simp; omega
  simp (disch:=first|omega|simp<;>omega|fail)[checker_shift,e1,e2]
  refine rh_in (cai_new (s:=0) (e:=0) (b:=.none) (cloneNat_in (h:=[(0,.none),(0,.none)]) (by simp [underB]) hdl hdn) rfl ?_)
  simp (disch:=first|omega|simp<;>omega|fail)[]
  have hps:=shrL_small (r:=r) (by omega) (l:=L.drop w) (hL.drop w)
  have hpv:=shrL_val (r:=r) (by omega) (L.drop w)
  have hpl:=shrL_len r (L.drop w)
  have hdv:val W (L.drop w)=a / W ^ w:=by
   have hap:=val_append (B:=W) (L.take w) (L.drop w)
   rw [List.take_append_drop,hv,List.length_take,Nat.min_eq_left (by omega)] at hap
   have htl:=val_lt W_pos (hL.take w)
   rw [List.length_take,Nat.min_eq_left (by omega)] at htl
   rw [hap,Nat.add_mul_div_left _ _ (Nat.pow_pos W_pos),Nat.div_eq_of_lt htl,Nat.zero_add]
  have hval:val W (shrL r (L.drop w))=a / 2 ^ n:=by
   have:val 4294967296 (shrL r (L.drop w))=a / 2 ^ n:=by
    rw [hpv,show val 4294967296 (L.drop w)=a / W ^ w from hdv,Nat.div_div_eq_div_mul,hWw,hn32,Nat.pow_add]
   exact this
  rw [← List.map_drop]
  refine lo (shr_loop hL (by omega) (w:=w) hr32 (n:=L.length - w) _ _ rfl (L.drop w) [] [] rfl rfl (by simp) ?_)
  rw [List.length_drop] at hpl
  generalize shrL r (L.drop w)=o at *
  have h50:(2:Nat) ^ 50=1125899906842624:=by decide
  have ht:=trim_ok hps (by omega)
  rw [show val W o=a / 2 ^ n from hval] at ht
  simp (disch:=first|omega|simp<;>omega|fail)[shH]
  refine cdz (ds:=[lst u32 o]) (h':=[(1,.data 1 (o.map u32) false true),(0,.none)]) ?_ ht ?_
  ·simp [snaps,snap,toD,hget,hpl,lst]
   rw [List.take_of_length_le (by simp [hpl])]
  ·exact out_lst ..
theorem len_of_blen {a k:Nat} (h:bln a≤32 * k):len a≤k:=by
 refine len_le ?_
 have h1:=bln_lt a
 have h2:2 ^ bln a≤2 ^ (32 * k):=Nat.pow_le_pow_right (by decide) h
 rw [Nat.pow_mul] at h2
 exact Nat.lt_of_lt_of_le h1 h2
theorem blen_of_len (a:Nat):bln a≤32 * len a:=by
 refine bln_le_of ?_
 have:a < W ^ (dig W a).length:=(dig_len two_le_W).1 (Nat.le_refl _)
 have hW:W ^ (dig W a).length=2 ^ (32 * (dig W a).length):=by rw [Nat.pow_mul]; rfl
 rw [hW] at this
 exact this
theorem len_mono {a b:Nat} (h:a≤b):len a≤len b:=len_le (Nat.lt_of_le_of_lt h ((dig_len two_le_W).1 (Nat.le_refl _)))
theorem nat_one:nat 1=.d (.sl 1 [.int .u32 1]):=by
 unfold nat lst
 rfl
theorem bln_shl (b j:Nat):bln (b * 2 ^ j)≤bln b+j:=by
 refine bln_le_of ?_
 rw [Nat.pow_add]
 exact Nat.mul_lt_mul_of_pos_right (bln_lt b) (Nat.two_pow_pos j)
theorem bln_mono {a b:Nat} (h:a≤b):bln a≤bln b:=bln_le_of (Nat.lt_of_le_of_lt h (bln_lt b))
def isN (v:V) (n:Nat):Prop:=v=nat n∨(n=0∧v=.d (.pl (.slice none 0 0)))
theorem isN_snap {v:V} {n:Nat} (h:isN v n) (hp:Hp):snap hp v=some (nat n,hp):=by
 rcases h with rfl | ⟨rfl,rfl⟩
 ·simp
 ·simp [nat,lst,dig_zero]
theorem divide_loop {b:Nat} (hb:0 < b) (M:Nat) (hM:M < 2000000000) (hbM:len b≤M) (k:KL):∀ (j a q:Nat) (v:V),a < b * 2 ^ j→bln b+j≤32 * M→isN v q→len (q+a / b) < 1000000000→(∀ v2,isN v2 (q+a / b)→k (.exit 0) [nat (a % b),v2] []) →
  lp (checker_divide_l0 (CX Y) (nat b)) [] [] [nat a,v,I ((j:Int) - 1)] [] k
 | 0,a,q,v,ha,hj,hv,hqa,hk=>by
  refine lp_in ?_
  simp (disch:=first|omega|simp<;>omega|fail)[checker_divide_l0]
  rw [Nat.pow_zero,Nat.mul_one] at ha
  rw [Nat.mod_eq_of_lt ha,Nat.div_eq_of_lt ha,Nat.add_zero] at hk
  exact hk v hv
 | j+1,a,q,v,ha,hj,hv,hqa,hk=>by
  have h40:(2:Nat) ^ 40=1099511627776:=by decide
  have hp1:len (b * 2 ^ j)≤M:=len_of_blen (by have:=bln_shl b j; omega)
  have hp2:len a≤M:=len_of_blen (by have:=bln_mono (Nat.le_of_lt ha); have:=bln_shl b (j+1); omega)
  have hsh:=shl_ok (a:=b) (n:=j) (by omega) (by omega)
  have hor:=order_ok (a:=a) (b:=b * 2 ^ j) (by omega) (by omega)
  have e1:(((j+1:Nat):Int) - 1)=(j:Int):=by omega
  have hstep:=div_step (a:=a) (b:=b) (n:=j) hb
  have ih:=divide_loop hb M hM hbM k j
  have hlq:len q < 1000000000:=Nat.lt_of_le_of_lt (len_mono (Nat.le_add_right _ _)) hqa
  rw [Nat.pow_succ,← Nat.mul_assoc] at ha
  refine lp_in ?_
  rw [e1]
  generalize hc:b * 2 ^ j=c at *
  simp (disch:=first|omega|simp<;>omega|fail)[checker_divide_l0]
  refine jo_in ?_
  simp (disch:=first|omega|simp<;>omega|fail)[]
  refine cd hsh ?_
  simp (disch:=first|omega|simp<;>omega|fail)[]
  refine cd hor ?_
  by_cases hca:c≤a
  ·have hcm:(0:Int)≤cmp a c:=by unfold cmp; rw [if_neg (by omega)]; split <;> omega
   obtain ⟨s1,s2⟩:=hstep hca
   have h2j:len (q+2 ^ j) < 1000000000:=Nat.lt_of_le_of_lt (len_mono (by rw [s1]; exact Nat.add_le_add_left (Nat.le_add_right _ _) _)) hqa
   have h2j2:len (2 ^ j) < 1000000000:=Nat.lt_of_le_of_lt (len_mono (Nat.le_add_left _ _)) h2j
   have hone:=shl_ok (a:=1) (n:=j) (by have:=len_le (n:=1) (k:=1) (by decide); omega) (by omega)
   rw [Nat.one_mul,nat_one] at hone
   have hli:lisR 1 [D.int IntKind.u32 0] [(0,.d (.int .u32 1))] []=some ([.int .u32 1],[]):=by simp [lisR,repl,toDs,toD]
   simp (disch:=first|omega|simp<;>omega|fail)[hcm]
   refine jo_in ?_
   simp (disch:=first|omega|simp<;>omega|fail)[hcm]
   refine cd (less_ok hca (by omega)) ?_
   simp (disch:=first|omega|simp<;>omega|fail)[]
   rw [hli]
   simp (disch:=first|omega|simp<;>omega|fail)[]
   refine cd hone ?_
   simp (disch:=first|omega|simp<;>omega|fail)[]
   refine cdx (ds:=[nat q,nat (2 ^ j)]) (by simp [snaps,isN_snap hv]) (plus_ok (a:=q) (b:=2 ^ j) (by omega) (by omega)) ?_
   simp (disch:=first|omega|simp<;>omega|fail)[]
   refine ih (a - c) (q+2 ^ j) _ (by omega) (by omega) (.inl rfl) (by rw [s1,← Nat.add_assoc] at hqa; exact hqa) (fun v2 hv2=>?_)
   rw [← s2]
   exact hk v2 (by rw [s1,← Nat.add_assoc]; exact hv2)
  ·have hcm:¬ (0:Int)≤cmp a c:=by unfold cmp; rw [if_pos (by omega)]; omega
   simp (disch:=first|omega|simp<;>omega|fail)[hcm]
   refine jo_in ?_
   simp (disch:=first|omega|simp<;>omega|fail)[hcm]
   exact ih a q v (by omega) (by omega) hv hqa hk
theorem divide_ok {a b:Nat} (hb:0 < b) (ha:len a < 1000000000) (hbl:len b < 1000000000):CP Y F.checker_divide [nat a,nat b] (.tup [nat (a / b),nat (a % b)]):=by
 refine checker_divide_i ?_
 have h40:(2:Nat) ^ 40=1099511627776:=by decide
 have hba:=blen_of_len a
 have hbb:=blen_of_len b
 have hb1:=bits_ok (a:=a) (by omega)
 have hb2:=bits_ok (a:=b) (by omega)
 have hqa:len (a / b) < 1000000000:=Nat.lt_of_le_of_lt (len_mono (Nat.div_le_self _ _)) ha
 have hout:∀ v2,isN v2 (0+a / b)→∀ h,out (.tup [nat (a / b),nat (a % b)]) (.tup [v2,nat (a % b)]) h:=fun v2 hv h=>by
  rw [Nat.zero_add] at hv
  exact ⟨h,by simp [snap,snaps,isN_snap hv]⟩
 simp (disch:=first|omega|simp<;>omega|fail)[checker_divide]
 refine cd hb1 ?_
 simp (disch:=first|omega|simp<;>omega|fail)[]
 refine cd hb2 ?_
 simp (disch:=first|omega|simp<;>omega|fail)[]
 by_cases h:bln b≤bln a
 ·have e:((bln a:Int) - (bln b:Int))=((bln a - bln b+1:Nat):Int) - 1:=by omega
  rw [e]
  refine lo (divide_loop hb (len a+1) (by omega) (len_of_blen (by omega)) _ (bln a - bln b+1) a 0 _ ?_ (by omega) (.inr ⟨rfl,rfl⟩) (by rw [Nat.zero_add]; exact hqa) fun v2 hv=>?_)
  ·have h1:=bln_lt a
   have h2:=bln_le (n:=b) (by omega)
   have h3:=bln_pos (n:=b) (by omega)
   have h4:=Nat.mul_le_mul_right (2 ^ (bln a - bln b+1)) h2
   rw [← Nat.pow_add,show bln b - 1+(bln a - bln b+1)=bln a by omega] at h4
   omega
  ·simp (disch:=first|omega|simp<;>omega|fail)[]
   exact hout v2 hv _
 ·have hab:a < b:=by
   rcases Nat.lt_or_ge a b with h1 | h1
   ·exact h1
   ·have:=bln_mono h1; omega
  refine lo (lp_in ?_)
  have g:¬ (0:Int)≤(bln a:Int) - (bln b:Int):=by omega
  simp (disch:=first|omega|simp<;>omega|fail)[checker_divide_l0,g]
  have:=hout (.d (.pl (.slice none 0 0))) (.inr ⟨by rw [Nat.div_eq_of_lt hab],rfl⟩)
  rw [Nat.mod_eq_of_lt hab] at this ⊢
  exact this _
theorem common_loop (k:KL):∀ (b a:Nat),len a < 1000000000→len b < 1000000000→k (.exit 0) [nat (Nat.gcd a b)] []→lp (checker_common_l0 (CX Y)) [] [] [nat a,nat b] [] k:=by
 intro b
 induction b using Nat.strongRecOn with
 | _ b ih =>
  intro a ha hb hk
  refine lp_in ?_
  by_cases h0:b=0
  ·subst h0
   have hz:lenV (nat 0)=some (I 0):=rfl
   rw [Nat.gcd_zero_right] at hk
   simp (disch:=first|omega|simp<;>omega|fail)[checker_common_l0,hz]
   exact hk
  ·have hl:lenV (nat b)=some (I (len b)):=rfl
   have hp:=len_pos.2 (Nat.pos_of_ne_zero h0)
   have hm:=Nat.mod_lt a (Nat.pos_of_ne_zero h0)
   simp (disch:=first|omega|simp<;>omega|fail)[checker_common_l0,hl]
   refine cd (divide_ok (Nat.pos_of_ne_zero h0) ha hb) ?_
   simp (disch:=first|omega|simp<;>omega|fail)[]
   refine ih (a % b) hm b hb (Nat.lt_of_le_of_lt (len_mono (Nat.le_of_lt hm)) hb) ?_
   rw [Nat.gcd_comm b,← Nat.gcd_rec,Nat.gcd_comm]
   exact hk
theorem common_ok {a b:Nat} (ha:len a < 1000000000) (hb:len b < 1000000000):CP Y F.checker_common [nat a,nat b] (nat (Nat.gcd a b)):=by
 refine checker_common_i ?_
 unfold checker_common
 refine common_loop _ b a ha hb ?_
 simp (disch:=first|omega|simp<;>omega|fail)[]
 exact out_lst ..
end Go.Vm
