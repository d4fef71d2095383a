/- Naturals and their digits (package decimal): Of, Small, both. -/
import Derived.Test.YtbdajblfnkoagaaGreatDoorQDcY
import Derived.Test.YtbdajblfnkoagaaGreatDoorQRefX
import Derived.Test.YtbdajblfnkoagaaGreatDoorQStr
import Derived.Test.YtbdajblfnkoagaaGreatDoorQT
set_option linter.unusedVariables false
set_option linter.unusedSimpArgs false
namespace Go.Vm
open Go Go.Am Go.Big
theorem formatU_ok {n:Nat} (h2:n < 18446744073709551616):CP Y F.i_strconv_FormatUint [U n,I 10] (S (itoaN n)):=by
 refine i_strconv_FormatUint_i ?_
 have hd1:=ndg_pos n
 have hd2:ndg n≤20:=ndg_le (by omega) (by omega)
 have hn:=ndg_hi n
 by_cases hs:(n:Int) < 100
 ·simp (disch:=first|omega|simp<;>omega|fail)[i_strconv_FormatUint,hs]
  refine cd (small_ok (n:=n) (by omega)) ?_
  exact out_s rfl
 ·have hn0:0 < n:=by omega
  have hit:itoaN n=decD n (ndg n):=rfl
  have hlo:=ndg_lo n hn0
  generalize ndg n=d at *
  obtain ⟨mid,post,hm,hp,hcell⟩:∃ mid post:List D,mid.length=d∧post.length=24 - d∧List.replicate 24 (D.int .u8 0)=[]++(mid++post):=by
   refine ⟨List.replicate d (.int .u8 0),List.replicate (24 - d) (.int .u8 0),by simp,by simp,?_⟩
   rw [List.replicate_append_replicate,show d+(24 - d)=24 by omega]
   rfl
  simp (disch:=first|omega|simp<;>omega|fail)[i_strconv_FormatUint,hs]
  refine cd (numDigits_ok hlo hn hd1 h2) ?_
  simp only [List.replicate] at hcell
  rw [hcell]
  rw [show [(1,Bk.data 1 ([]++(mid++post)) true false),(0,.none)]=cH ([]++(mid++post)) from rfl]
  rw [slP_at0 (by simp; omega) d rfl (by omega)]
  simp (disch:=first|omega|simp<;>omega|fail)[]
  refine cai_of (h':=cH ([]++((decD n d).map u8++post))) (fb_ok (pre:=[]) rfl hm (by omega) (by omega) hn h2) ?_ (by simp)
  rw [slP_at0 (by simp [decD_len]; omega) d rfl (by omega)]
  simp (disch:=first|omega|simp<;>omega|fail)[]
  rw [cvT_at (bs:=decD n d) (by simp [decD_len]; omega) (by omega) (by simp [decD_len,List.take_append,List.take_of_length_le]) (by simp [decD_len])]
  rw [hit]
  try simp (disch:=first|omega|simp<;>omega|fail)[]
  exact out_s rfl
theorem formatUp_ok {n:Nat} (h:n < 18446744073709551616):CP Y F.strconv_FormatUint [U n,I 10] (S (itoaN n)):=by
 refine strconv_FormatUint_i ?_
 simp (disch:=first|omega|simp<;>omega|fail)[strconv_FormatUint]
 refine cd (formatU_ok h) ?_
 exact out_s rfl
theorem ofU_ok {n:Nat} (h:n < 18446744073709551616):CP Y F.decimal_Of [U n] (S (itoaN n)):=by
 refine decimal_Of_i ?_
 simp (disch:=first|omega|simp<;>omega|fail)[decimal_Of]
 refine cd (formatUp_ok h) ?_
 exact out_s rfl
theorem dval_horn:∀ (l:List UInt8) (a:Nat),dval a l=hornB a l
 | [],_=>rfl
 | c :: l,a=>dval_horn l _
theorem digit_eq (c:UInt8):digitB c=isDg c:=by
 simp only [digitB,isDg]
 rw [Bool.eq_iff_iff]
 simp
theorem parseU_ok {n:Nat} (h:n < 10000000000000000000):CP Y F.strconv_ParseUint [S (itoaN n),I 10,I 64] (.tup [U n,.d (.pl .nilIface)]):=by
 have hd:=hornB_itoaN n
 have hc:=canT_itoaN n
 have hl:(itoaN n).length≤1000:=by
  have:=ndg_le (n:=n) (d:=19) (by omega) (by decide)
  rw [itoaN,decD_len]
  omega
 simp only [canT,Bool.and_eq_true] at hc
 have hall:(itoaN n).all digitB=true:=by
  rw [← hc.1.2]
  congr 1
  funext c
  exact digit_eq c
 have ho:Y.X.orc F.strconv_ParseUint [.string ⟨⟨itoaN n⟩⟩,.int .i64 10,.int .i64 64]=some (.tuple #[.int .u64 n,.nilIface]):=by
  have e:∀ a,Y.X.orc F.strconv_ParseUint a=puOrc a:=fun a=>by
   show (match Nat.beq F.strconv_ParseUint F.strconv_ParseUint with | true=>puOrc a | false=>none)=_
   rw [Nat.beq_refl]
  rw [e]
  unfold puOrc
  simp only
  rw [if_pos ⟨trivial,trivial,itoaN_ne n,hall,hl,by rw [dval_horn,hd]; exact h⟩,dval_horn,hd]
 exact CP.orc ho (by intro x hx; simp only [List.mem_cons,List.not_mem_nil,or_false] at hx; rcases hx with rfl | rfl | rfl <;> rfl) rfl
theorem smallU_ok {n:Nat} (h:n < 10000000000000000000):CP Y F.decimal_Small [S (itoaN n)] (.tup [U n,B true]):=by
 refine decimal_Small_i ?_
 simp (disch:=first|omega|simp<;>omega|fail)[decimal_Small]
 refine cd (parseU_ok h) ?_
 simp (disch:=first|omega|simp<;>omega|fail)[nil_ne]
 exact out_tup2 (snapU _ _) rfl
theorem len_itoaN (n:Nat):lenS (S (itoaN n))=some (I (ndg n)):=by
 show some (I (itoaN n).length)=_
 rw [itoaN,decD_len]
theorem both_ok (a b:Nat):CP Y F.decimal_both [S (itoaN a),S (itoaN b)] (if ndg a≤18∧ndg b≤18 then .tup [U a,U b,B true] else .tup [U 0,U 0,B false]):=by
 refine decimal_both_i ?_
 have la:=len_itoaN a
 have lb:=len_itoaN b
 by_cases h1:18 < ndg a
 ·rw [if_neg (by omega)]
  simp (disch:=first|omega|simp<;>omega|fail)[decimal_both,la,lb,h1]
  exact out_tup3 (snapU _ _) (snapU _ _) rfl
 by_cases h2:18 < ndg b
 ·rw [if_neg (by omega)]
  simp (disch:=first|omega|simp<;>omega|fail)[decimal_both,la,lb,h1,h2]
  exact out_tup3 (snapU _ _) (snapU _ _) rfl
 ·rw [if_pos (by omega)]
  have ha:a < 10000000000000000000:=by have:=ndg_hi a; have:=Nat.pow_le_pow_right (n:=10) (by decide) (show ndg a≤18 by omega); omega
  have hb:b < 10000000000000000000:=by have:=ndg_hi b; have:=Nat.pow_le_pow_right (n:=10) (by decide) (show ndg b≤18 by omega); omega
  simp (disch:=first|omega|simp<;>omega|fail)[decimal_both,la,lb,h1,h2]
  refine cd (smallU_ok ha) ?_
  simp (disch:=first|omega|simp<;>omega|fail)[]
  refine cd (smallU_ok hb) ?_
  simp (disch:=first|omega|simp<;>omega|fail)[]
  exact out_tup3 (snapU _ _) (snapU _ _) rfl
end Go.Vm
namespace Go.Vm
open Go Go.Am Go.Big
theorem cvB_S (l:List UInt8) (h:Hp) (k:V→Hp→Prop):cvB (S l) h k=k (lst u8 l) h:=rfl
section
variable {h:Hp}
theorem cut_l1 {C0:Nat} (l:List UInt8) (hl:l.length≤9) (hd:l.all isDg=true) (k:KL) (h0 H:Hp) (hh:h0.length=H.length):∀ (q p:List UInt8),p++q=l→k (.exit 2) [U (hornB 0 l:Nat)] H →
  lp (decimal_cut_l1 (CX Y) h.length (lst u8 l) (I l.length)) [] h0 [U (hornB 0 p:Nat),I p.length] H k
 | []=>by
  intro p hp hk
  simp at hp
  subst hp
  refine lp_in ?_
  simp (disch:=first|omega|simp<;>omega|fail)[decimal_cut_l1]
  exact hk
 | c :: q=>by
  intro p hp hk
  have hpl:p.length < l.length:=by subst hp; simp
  have hc:nth 0 l p.length=c:=by subst hp; simp
  have hcd:isDg c=true:=by
   rw [List.all_eq_true] at hd
   exact hd c (by subst hp; simp)
  rw [isDg_iff] at hcd
  have hpd:p.all isDg=true:=by
   rw [List.all_eq_true] at hd ⊢
   exact fun x hx=>hd x (by subst hp; simp [hx])
  have e1:=fun h:Hp=>ix_nth u8 l h (k:=.i64) (i:=(p.length:Int)) (by omega) (by omega)
  have e2:=fun h:Hp=>ld_nth u8 0 l h (j:=p.length) hpl
  rw [hc] at e2
  simp only [Int.toNat_natCast] at e1
  have hb:=hornB_hi p 0 hpd
  have hb2:hornB 0 p < 1000000000:=by
   have:=Nat.pow_le_pow_right (n:=10) (by decide) (show p.length≤8 by omega)
   omega
  have e3:hornB 0 (p++[c])=10 * hornB 0 p+(c.toNat - 48):=by
   rw [hornB_append]
   simp only [hornB,List.foldl_cons,List.foldl_nil]
   omega
  have ih:=cut_l1 (C0:=C0) l hl hd k h0 H hh q (p++[c]) (by simpa using hp) hk
  rw [e3] at ih
  obtain ⟨t,ht⟩:∃ t,hornB 0 p=t:=⟨_,rfl⟩
  rw [ht] at ih hb2 ⊢
  have e4:(10:Int) * (t:Int)+((c.toNat:Int) - 48)=((10 * t+(c.toNat - 48):Nat):Int):=by omega
  obtain ⟨t2,ht2⟩:∃ t2,10 * t+(c.toNat - 48)=t2:=⟨_,rfl⟩
  rw [ht2] at ih e4
  have hcb:=hcd.1
  have hcb2:=hcd.2
  refine lp_in ?_
  simp (disch:=first|omega|simp<;>omega|fail)[decimal_cut_l1,e1,e2,u8,e4]
  simpa [hh] using ih
def cuH (h:Hp) (l:List Nat):Hp:=h++[(1,.data 1 (l.map u6) true false),(0,.none),(0,.none)]
theorem cuH_get (h:Hp) (l:List Nat):(cuH h l)[h.length]? = some (1,.data 1 (l.map u6) true false):=by simp [cuH]
theorem cuH_set (h:Hp) (l l':List Nat):(cuH h l).set h.length (1,.data 1 (l'.map u6) true false)=cuH h l':=by simp [cuH]
@[simp] theorem cuH_len (h:Hp) (l:List Nat):(cuH h l).length=h.length+3:=by simp [cuH]
theorem cut_loop (T:List UInt8) (cap:Nat) (hL:T.length < 9000000000) (k:KL) (h0:Hp) (hh:h0.length=h.length+3):∀ (w n:Nat) (E:Int) (d:List Nat),(0 < w→E=w)→(w=0→E≤0)→-20≤E→T.take w=decD n w→w≤T.length→d.length+(w+8) / 9≤cap→cap < 1000000000000→n < 10 ^ w→Small Z d →
  (∀ d':List Nat,Small Z d'→d'.length≤cap→val Z d'=val Z d+Z ^ d.length * n→k (.exit 0) [.ref h.length 1 0 d'.length cap cap] (cuH h (d'++List.replicate (cap - d'.length) 0))) →
  lp (decimal_cut_l0 (CX Y) h.length (S T)) [] h0 [.ref h.length 1 0 d.length cap cap,I E] (cuH h (d++List.replicate (cap - d.length) 0)) k:=by
 intro w
 induction w using Nat.strongRecOn with
 | _ w ih =>
  intro n E d hE1 hE0 hEl hT hwT hw hcap hn hs hk
  by_cases h0w:w=0
  ·subst h0w
   have hE:=hE0 rfl
   have g:¬ 0 < E:=by omega
   simp at hn
   subst hn
   refine lp_in ?_
   simp (disch:=first|omega|simp<;>omega|fail)[decimal_cut_l0,g]
   exact hk d hs (by omega) (by simp)
  ·obtain rfl:=hE1 (by omega)
   obtain ⟨v,u,hv1,hv9,hvw,hu,huv⟩:∃ v u:Nat,1≤v∧v≤9∧w=u+v∧mx2 true 0 ((w:Int) - 9)=u∧(u=0∨v=9):=by
    by_cases h9:w≤9
    ·exact ⟨w,0,by omega,h9,by omega,by simp [mx2]; omega,.inl rfl⟩
    ·exact ⟨9,w - 9,by omega,by omega,by omega,by simp [mx2]; omega,.inr rfl⟩
   have hD:=decD_add v u n
   rw [← hvw] at hD
   have hlu:=decD_len u (n / 10 ^ v)
   have e1:(T.take w).drop u=decD (n % 10 ^ v) v:=by
    rw [hT,hD,List.drop_left' hlu]
    have:=decD_mod v (n % 10 ^ v) (n / 10 ^ v)
    rw [Nat.mod_add_div] at this
    exact this
   have e2:T.take u=decD (n / 10 ^ v) u:=by
    have:T.take u=(T.take w).take u:=by rw [List.take_take,Nat.min_eq_left (by omega)]
    rw [this,hT,hD,List.take_left' hlu]
   have hp:0 < 10 ^ v:=Nat.pow_pos (by decide)
   have hm:=Nat.mod_lt n hp
   have hZv:10 ^ v≤Z:=by
    have:10 ^ v≤10 ^ 9:=Nat.pow_le_pow_right (by decide) hv9
    exact this
   have hnu:n / 10 ^ v < 10 ^ u:=Nat.div_lt_of_lt_mul (by rw [hvw,Nat.add_comm,Nat.pow_add] at hn; exact hn)
   have hval:n % 10 ^ v+Z * (n / 10 ^ v)=n:=by
    have:=Nat.mod_add_div n (10 ^ v)
    rcases huv with rfl | rfl
    ·rw [Nat.pow_zero] at hnu
     have h3:n / 10 ^ v=0:=Nat.lt_one_iff.1 hnu
     rw [h3] at this ⊢
     simpa using this
    ·exact this
   have hdc:d.length < cap:=by omega
   have ihh:=ih u (by omega) (n / 10 ^ v) ((w:Int) - 9) (d++[n % 10 ^ v]) (fun h=>by rcases huv with h1 | h1 <;> omega) (fun h=>by omega) (by omega) e2 (by omega) (by simp; omega) hcap hnu (hs.snoc (Nat.lt_of_lt_of_le hm hZv)) (fun d' h1 h2 h3=>hk d' h1 h2 (by
    rw [h3,val_snoc,List.length_append,List.length_singleton,Nat.pow_succ,Nat.mul_assoc,Nat.add_assoc,← Nat.mul_add,hval]))
   have hr:=hornB_dec v (n % 10 ^ v) hm
   have hall:=decD_all v (n % 10 ^ v)
   have hlv:=decD_len v (n % 10 ^ v)
   have esl:slS (S T) (some (I u)) (some (I w))=some (S (decD (n % 10 ^ v) v)):=by
    rw [slS_at u w rfl rfl (by omega) hwT,← e1,List.drop_take]
   obtain ⟨r,hre⟩:∃ r,n % 10 ^ v=r:=⟨_,rfl⟩
   rw [hre] at esl hr hall hlv ihh
   generalize decD r v=L at *
   have hli:∀ h:Hp,lisR 1 [D.int .u64 0] [(0,U r)] h=some ([u6 r],h):=fun h=>by
    simp [lisR,repl,toDs,toD,u6]
   have hcell:(d++List.replicate (cap - d.length) 0).take d.length++[r]++(d++List.replicate (cap - d.length) 0).drop (d.length+1)=(d++[r])++List.replicate (cap - (d++[r]).length) 0:=by
    rw [List.take_left' rfl]
    have:List.replicate (cap - d.length) 0=0 :: List.replicate (cap - d.length - 1) 0:=by
     rw [← List.replicate_succ]; congr 1; omega
    rw [this,← List.drop_drop,List.drop_left' rfl]
    rw [show cap - d.length - 1=cap - (d++[r]).length by simp; omega]
    simp
   have hcl:(d++List.replicate (cap - d.length) 0).length=cap:=by simp; omega
   have hget:=cuH_get h (d++List.replicate (cap - d.length) 0)
   have gp:0 < (w:Int):=by omega
   clear hk ih hval
   refine lp_in ?_
   simp (disch:=first|omega|simp<;>omega|fail)[decimal_cut_l0,gp,mxI,hu,esl]
   rw [cvB_S]
   simp (disch:=first|omega|simp<;>omega|fail)[]
   refine lo (cut_l1 (C0:=0) L (by omega) hall _ _ _ rfl L [] rfl ?_)
   rw [hr]
   simp (disch:=first|omega|simp<;>omega|fail)[hli]
   refine apP_in hget hcl hdc ?_
   rw [hcell,cuH_set]
   simp (disch:=first|omega|simp<;>omega|fail)[hh]
   simpa using ihh
theorem rh_mk0 {s by_:Nat} {z:D} {h:Hp} {i e:Nat} {b:Bk} {k:V→Hp→Prop} {u:PU k} (hs:h[s]? = some (e,b)) (hb:(by_:Int) * i≤281474976710656) (h1:(i:Int)≤9223372036854775807)
  (hk:k (.ref s (e+1) 0 0 i i) (h.set s (e+1,.data 1 (List.replicate i z) true false))):rh (mkS s by_ [z] h (.d (.int .i64 0)) (.d (.int .i64 i))) k u:=by
 unfold rh
 simp only [mkS]
 rw [if_pos ⟨Int.le_refl _,by omega,by simp,hb,h1⟩]
 simp only [new,hs,repl_one,List.length_replicate,Int.toNat_natCast]
 exact hk
theorem cut_ok (hu:(h.all fun x=>underB h.length x.2)=true) {n:Nat} (hb:ndg n < 900000000) {cap:Nat} (hcap:cap=ndg n / 9+1) :
  CI Y F.decimal_cut [S (itoaN n)] h (.new 1 ((fixZ cap n).map u6) true (dig Z n).length cap) h:=by
 refine decimal_cut_i ?_
 have hl:=len_itoaN n
 have hlT:(itoaN n).length=ndg n:=by rw [itoaN,decD_len]
 have e1:((ndg n:Nat):Int) / 9+1=(cap:Int):=by omega
 have e3:(h++[(1,Bk.data 1 (List.replicate cap (D.int IntKind.u64 0)) true false),(0,.none),(0,.none)])=cuH h ([]++List.replicate (cap - ([]:List Nat).length) 0):=by
  simp [cuH,u6]
 have e4:(h++[(0,Bk.none),(0,Bk.none),(0,Bk.none)]).set h.length (1,Bk.data 1 (List.replicate cap (D.int IntKind.u64 0)) true false)=cuH h ([]++List.replicate (cap - ([]:List Nat).length) 0):=by
  simp [cuH,u6]
 have hcap2:cap < 1000000000000:=by omega
 simp (disch:=first|omega|simp<;>omega|fail)[decimal_cut,hl,Int.tdiv_eq_ediv_of_nonneg,e1]
 refine rh_mk0 (e:=0) (b:=.none) (by simp) (by omega) (by omega) ?_
 simp (disch:=first|omega|simp<;>omega|fail)[hl]
 try rw [e4]
 try rw [e3]
 refine lo (cut_loop (itoaN n) cap (by omega) _ _ (cuH_len ..) (ndg n) n (ndg n) [] (fun _=>rfl) (fun h=>by have:=ndg_pos n; omega) (by omega) (by rw [← hlT,List.take_length]; rw [hlT]; rfl) (by omega) (by simp; omega) hcap2 (ndg_hi n) (fun x hx=>by cases hx) fun d hs hdl hv=>?_)
 simp only [exK_exit]
 have hv':val Z d=n:=by rw [hv]; simp [val]
 obtain ⟨o,ho⟩:∃ o,d++List.replicate (cap - d.length) 0=o:=⟨_,rfl⟩
 have hol:o.length=cap:=by rw [← ho]; simp; omega
 have hos:Small Z o:=by
  rw [← ho]
  exact hs.append fun x hx=>by rw [List.mem_replicate] at hx; rw [hx.2]; exact Z_pos
 have hov:val Z o=n:=by rw [← ho,val_pad,hv']
 rw [ho]
 have hfix:o=fixZ cap n:=by rw [← hov,← hol]; exact fixZ_eq o hos
 have hu2:((cuH h o).all fun x=>underB (cuH h o).length x.2)=true:=by
  have hm:(h.all fun x=>underB (cuH h o).length x.2)=true:=all_le (by simp) hu
  rw [cuH,List.all_append,← cuH,hm]
  rfl
 have htk:o.take d.length=d:=by rw [← ho,List.take_left' rfl]
 have tr:=trimP_in hu2 (cuH_get h o) hol.symm (len:=d.length) (cap:=cap) (Nat.le_refl _) hcap2 hdl
 rw [htk,← dig_val two_le_Z hs,hv'] at tr
 refine cai_of tr ?_ (by simp)
 rw [← hfix]
 refine ⟨by simp [cuH],by simpa using hu,.inr (.inr (.inl ⟨h.length,1,_,cap,1,o.map u6,true,by simp [hol],Nat.le_refl _,by simp [hget,cuH],rfl⟩))⟩
end
end Go.Vm
namespace Go.Vm
open Go Go.Am Go.Big
section
variable {h:Hp} {s e tot:Nat} {l:List UInt8} {ex fr:Bool}
theorem ix8 (hg:h[s]? = some (e,.data 1 (l.map u8) ex fr)) (ht:tot=l.length) {len cap:Nat} {i:Int} (h0:0≤i) (h1:i < len) (k:IntKind):ixV h 1 (.ref s e 0 len cap tot) (.d (.int k i))=some (.ptr s e i.toNat tot):=by
 simp only [ixV,hget_of hg]
 rw [if_pos ⟨by simp [ht],h0,h1⟩]
 simp
theorem ld8 (hg:h[s]? = some (e,.data 1 (l.map u8) ex fr)) (ht:tot=l.length) {j:Nat} (hj:j < l.length):ld1 h (.ptr s e j tot)=some (.d (u8 (nth 0 l j))):=by
 have e1:tot=(l.map u8).length:=by simp [ht]
 simp only [ld1,hget_of hg,if_pos e1,List.getElem?_map,List.getElem?_eq_getElem hj,Option.map_some,nth_eq 0 l j hj]
theorem st8 (hg:h[s]? = some (e,.data 1 (l.map u8) ex false)) (ht:tot=l.length) {j:Nat} (hj:j < l.length) (x:UInt8):st h 1 (.ptr s e j tot) (.d (u8 x))=some (h.set s (e,.data 1 ((l.set j x).map u8) ex false)):=by
 have e1:(l.map u8).take j++[u8 x]++(l.map u8).drop (j+1)=(l.set j x).map u8:=by
  rw [List.map_set,List.set_eq_take_append_cons_drop,if_pos (by simp; omega)]
  simp
 simp only [st,if_true,sto,hget_of hg,toDs,toD]
 rw [if_pos ⟨trivial,by simp [ht],by simp; omega⟩]
 simp only [hset,List.length_singleton]
 rw [← e1]
 rfl
theorem ap8 {s' cap len:Nat} {x:UInt8} {q:V→Hp→Prop} {u:PU q} (hg:h[s]? = some (e,.data 1 (l.map u8) ex false)) (hold:l.length=cap) (hl:len < cap)
  (hq:q (.ref s e 0 (len+1) cap cap) (h.set s (e,.data 1 ((l.take len++[x]++l.drop (len+1)).map u8) ex false))):rh (apV false s' 1 1 (.ref s e 0 len cap cap) (.d (.sl 1 [u8 x])) h) q u:=by
 unfold rh apV
 simp only [cellsOf]
 rw [if_pos (by simp)]
 unfold apC
 rw [if_neg (by omega)]
 simp only [hget_of hg]
 rw [if_pos ⟨trivial,by simp [hold],by omega,by simp; omega,by simp⟩,if_pos (by omega)]
 simp only [Bool.or_self,Bool.false_eq_true,if_false,Nat.zero_add,hset,Nat.mul_one]
 simp only [List.map_append,List.map_take,List.map_drop,List.map_cons,List.map_nil] at hq
 exact hq
end
def s8 (h:Hp) (s e:Nat) (ex:Bool) (l:List UInt8):Hp:=h.set s (e,.data 1 (l.map u8) ex false)
theorem s8_get {h:Hp} {s e:Nat} {ex:Bool} {l:List UInt8} (hs:s < h.length):(s8 h s e ex l)[s]? = some (e,.data 1 (l.map u8) ex false):=by simp [s8,hs]
theorem s8_set {h:Hp} {s e:Nat} {ex:Bool} {l l':List UInt8}:(s8 h s e ex l).set s (e,.data 1 (l'.map u8) ex false)=s8 h s e ex l':=by simp [s8]
@[simp] theorem s8_len {h:Hp} {s e:Nat} {ex:Bool} {l:List UInt8}:(s8 h s e ex l).length=h.length:=by simp [s8]
theorem n8_set {l:List UInt8} {m n:Nat} {v:UInt8} (hm:m < l.length):nth 0 (l.set m v) n=if m=n then v else nth 0 l n:=by
 by_cases h:m=n
 ·subst h; simp [nth,hm]
 ·rw [if_neg h]; simp [nth,List.getElem?_set_ne h]
theorem rev_loop {h:Hp} {s e tot:Nat} {ex:Bool} (hs:s < h.length) {L cap:Nat} (hL:L≤tot) (htb:tot < 1000000000000) (l0:List UInt8) (k:KL) (h0:Hp) (hh:h0.length=h.length) :
  ∀ (r i:Nat) (l:List UInt8),L≤2 * i+r→2 * i≤L+1→l.length=tot→(∀ m,m < L→(m < i∨L - 1 - m < i)→nth 0 l m=nth 0 l0 (L - 1 - m))→(∀ m,m < L→i≤m→i≤L - 1 - m→nth 0 l m=nth 0 l0 m)→(∀ m,L≤m→nth 0 l m=nth 0 l0 m) →
  (∀ l':List UInt8,l'.length=tot→(∀ m,m < L→nth 0 l' m=nth 0 l0 (L - 1 - m))→(∀ m,L≤m→nth 0 l' m=nth 0 l0 m)→k (.exit 0) [] (s8 h s e ex l')) →
  lp (slices_Reverse_byte_byte_l0 (CX Y) h.length (.ref s e 0 L cap tot)) [] h0 [I i,I ((L:Int) - 1 - i)] (s8 h s e ex l) k:=by
 intro r
 induction r with
 | zero =>
  intro i l hr hi hl h1 h2 h3 hk
  refine lp_in ?_
  have g:¬ ((i:Int) < (L:Int) - 1 - i):=by omega
  simp (disch:=first|omega|simp<;>omega|fail)[slices_Reverse_byte_byte_l0,g]
  exact hk l hl (fun m hm=>h1 m hm (by omega)) h3
 | succ r ih =>
  intro i l hr hi hl h1 h2 h3 hk
  by_cases g:i+i+1 < L
  ·obtain ⟨j,hj⟩:∃ j,L - 1 - i=j:=⟨_,rfl⟩
   have g':((i:Int) < (L:Int) - 1 - i):=by omega
   have ej:(L:Int) - 1 - i=(j:Int):=by omega
   have hgt:=s8_get (e:=e) (ex:=ex) (l:=l) hs
   have a1:=ix8 hgt hl.symm (len:=L) (cap:=cap) (i:=(j:Int)) (by omega) (by omega) .i64
   have a2:=ld8 hgt hl.symm (j:=j) (by omega)
   have b1:=ix8 hgt hl.symm (len:=L) (cap:=cap) (i:=(i:Int)) (by omega) (by omega) .i64
   have b2:=ld8 hgt hl.symm (j:=i) (by omega)
   have b3:=st8 hgt hl.symm (j:=i) (by omega) (nth 0 l j)
   rw [s8_set] at b3
   have hgt2:=s8_get (e:=e) (ex:=ex) (l:=l.set i (nth 0 l j)) hs
   have c1:=ix8 hgt2 (by simpa using hl.symm) (len:=L) (cap:=cap) (i:=(j:Int)) (by omega) (by omega) .i64
   have c3:=st8 hgt2 (by simpa using hl.symm) (j:=j) (by simp; omega) (nth 0 l i)
   rw [s8_set] at c3
   simp only [Int.toNat_natCast] at a1 b1 c1
   have nn:∀ m,nth 0 ((l.set i (nth 0 l j)).set j (nth 0 l i)) m=if j=m then nth 0 l i else if i=m then nth 0 l j else nth 0 l m:=fun m=>by
    rw [n8_set (by simp; omega),n8_set (by omega)]
   have ihh:=ih (i+1) ((l.set i (nth 0 l j)).set j (nth 0 l i)) (by omega) (by omega) (by simpa using hl) (fun m hm hc=>by
    rw [nn]
    by_cases e1:j=m
    ·rw [if_pos e1,h2 i (by omega) (Nat.le_refl _) (by omega)]
     congr 1; omega
    ·rw [if_neg e1]
     by_cases e2:i=m
     ·rw [if_pos e2,h2 j (by omega) (by omega) (by omega)]
      congr 1; omega
     ·rw [if_neg e2]
      exact h1 m hm (by omega)) (fun m hm hc hc2=>by
    rw [nn,if_neg (by omega),if_neg (by omega)]
    exact h2 m hm (by omega) (by omega)) (fun m hm=>by
    rw [nn,if_neg (by omega),if_neg (by omega)]
    exact h3 m hm) hk
   have e2:(j:Int) - 1=(L:Int) - 1 - ((i+1:Nat):Int):=by omega
   rw [← e2] at ihh
   clear hk ih
   refine lp_in ?_
   rw [ej] at g' ⊢
   simp (disch:=first|omega|simp<;>omega|fail)[slices_Reverse_byte_byte_l0,g',a1,a2,b1,b2,b3,c1,c3]
   simpa [hh] using ihh
  ·refine lp_in ?_
   have g':¬ ((i:Int) < (L:Int) - 1 - i):=by omega
   simp (disch:=first|omega|simp<;>omega|fail)[slices_Reverse_byte_byte_l0,g']
   exact hk l hl (fun m hm=>by
    by_cases hc:m < i∨L - 1 - m < i
    ·exact h1 m hm hc
    ·rw [h2 m hm (by omega) (by omega)]
     congr 1; omega) h3
theorem ext8 {x y:List UInt8} (hl:x.length=y.length) (h:∀ c,c < x.length→nth 0 x c=nth 0 y c):x=y:=by
 refine List.ext_getElem hl fun i h1 h2=>?_
 have:=h i h1
 rw [nth_eq _ _ _ h1,nth_eq _ _ _ h2] at this
 exact this
theorem revB_ok {h:Hp} (hu:(h.all fun x=>underB h.length x.2)=true) {s e tot:Nat} {ex:Bool} (hs:s < h.length) {L cap:Nat} (hL:L≤tot) (htb:tot < 1000000000000) {l:List UInt8} (hl:l.length=tot) :
  CI Y F.slices_Reverse_byte_byte [.ref s e 0 L cap tot] (s8 h s e ex l) (.tup []) (s8 h s e ex ((l.take L).reverse++l.drop L)):=by
 refine slices_Reverse_byte_byte_i ?_
 simp (disch:=first|omega|simp<;>omega|fail)[slices_Reverse_byte_byte]
 have e1:(L:Int) - 1=(L:Int) - 1 - ((0:Nat):Int):=by omega
 rw [e1]
 have:=rev_loop (h:=h) (s:=s) (e:=e) (ex:=ex) hs (cap:=cap) hL htb l (exK [(.exit 0,fun l3 h_1=>outI (List.length (s8 h s e ex l)) (.tup []) (s8 h s e ex ((l.take L).reverse++l.drop L)) (.tup []) h_1)]) (s8 h s e ex l) (by simp) L 0 l (by omega) (by omega) hl (fun m hm hc=>by omega) (fun m _ _ _=>rfl) (fun m _=>rfl) fun l' hl' h1 h2=>by
  have hE:l'=(l.take L).reverse++l.drop L:=by
   refine ext8 (by simp; omega) fun c hc=>?_
   by_cases hcL:c < L
   ·rw [h1 c hcL,nth_eq _ _ _ (by omega),nth_eq _ _ _ (by simp; omega)]
    rw [List.getElem_append_left (by simp; omega),List.getElem_reverse,List.getElem_take]
    congr 1
    simp
    omega
   ·rw [h2 c (by omega),nth_eq _ _ _ (by omega),nth_eq _ _ _ (by simp; omega)]
    rw [List.getElem_append_right (by simp; omega),List.getElem_drop]
    congr 1
    simp
    omega
  subst hE
  simp only [exK_exit]
  refine ⟨(List.take_of_length_le (by simp)).symm,?_,.inl ⟨rfl,rfl⟩⟩
  rw [List.all_eq_true] at hu ⊢
  intro x hx
  rcases List.mem_or_eq_of_mem_set hx with h | h
  ·simpa using hu x h
  ·rw [h]; rfl
 simpa using this
def tH (l:List UInt8):Hp:=[(1,.data 1 (l.map u8) true false),(0,.none),(0,.none)]
theorem tH_get (l:List UInt8):(tH l)[0]? = some (1,.data 1 (l.map u8) true false):=rfl
@[simp] theorem tH_len (l:List UInt8):(tH l).length=3:=rfl
theorem tH_set (l l':List UInt8):(tH l).set 0 (1,.data 1 (l'.map u8) true false)=tH l':=rfl
theorem text_l1 {p:List Nat} {i N:Nat} (hi:i < p.length) (hp:p.length < 100000000) (hN:N < 1000000000000) (k:KL) (h0:Hp) (hh:h0.length=3):∀ (w j x:Nat) (bs:List UInt8),
  (i+1 < p.length∧j+w=9∨¬ i+1 < p.length∧j+w≤9∧x < 10 ^ w∧(0 < w→10 ^ (w - 1)≤x))→x < 1000000000→bs.length+w≤N →
  k (.exit 2) [.ref 0 1 0 (bs.length+w) N N] (tH (bs++(decD x w).reverse++List.replicate (N - (bs.length+w)) 0)) →
  lp (decimal_pieces_text_l1 (CX Y) (lst u6 p) (I i)) [] h0 [.ref 0 1 0 bs.length N N,U x,I j] (tH (bs++List.replicate (N - bs.length) 0)) k
 | 0,j,x,bs=>by
  intro hc hx hb hk
  have lp':lenV (lst u6 p)=some (I p.length):=rfl
  refine lp_in ?_
  rcases hc with ⟨g1,g2⟩ | ⟨g1,g2,g3,g4⟩
  ·have g5:¬ ((j:Int) < 9):=by omega
   simp (disch:=first|omega|simp<;>omega|fail)[decimal_pieces_text_l1,g5]
   simpa [decD] using hk
  ·have x0:x=0:=by simpa using g3
   subst x0
   have g1':¬ ((i:Int)+1 < (p.length:Int)):=by omega
   by_cases g5:(j:Int) < 9
   ·simp (disch:=first|omega|simp<;>omega|fail)[decimal_pieces_text_l1,g5,lp',g1']
    simpa [decD] using hk
   ·simp (disch:=first|omega|simp<;>omega|fail)[decimal_pieces_text_l1,g5]
    simpa [decD] using hk
 | w+1,j,x,bs=>by
  intro hc hx hb hk
  have lp':lenV (lst u6 p)=some (I p.length):=rfl
  have g5:(j:Int) < 9:=by omega
  have hdg:u8 (dg (x % 10))=.int .u8 (48+((x % 10:Nat):Int)):=u8_dg (Nat.mod_lt _ (by decide))
  obtain ⟨m,hm⟩:∃ m,x % 10=m:=⟨_,rfl⟩
  obtain ⟨d,hd⟩:∃ d,x / 10=d:=⟨_,rfl⟩
  have hm10:m < 10:=by omega
  have e1:(x:Int) % 10=(m:Int):=by omega
  have e2:(x:Int) / 10=(d:Int):=by omega
  rw [hm] at hdg
  have hdec:(decD x (w+1)).reverse=dg m :: (decD d w).reverse:=by rw [decD,hd,hm]; simp
  have ih:=text_l1 hi hp hN k h0 hh w (j+1) d (bs++[dg m]) (by
   rcases hc with ⟨g1,g2⟩ | ⟨g1,g2,g3,g4⟩
   ·exact .inl ⟨g1,by omega⟩
   ·refine .inr ⟨g1,by omega,?_,fun hw=>?_⟩
    ·rw [← hd]; exact Nat.div_lt_of_lt_mul (by rw [Nat.pow_succ,Nat.mul_comm] at g3; exact g3)
    ·have:=g4 (by omega)
     rw [← hd,Nat.le_div_iff_mul_le (by decide),← Nat.pow_succ,show (w - 1).succ=w+1 - 1 by omega]
     exact this) (by omega) (by simp; omega) (by
   rw [hdec] at hk
   rw [show (bs++[dg m]).length+w=bs.length+(w+1) by simp; omega]
   simpa using hk)
  have hcell:(bs++List.replicate (N - bs.length) 0).take bs.length++[dg m]++(bs++List.replicate (N - bs.length) 0).drop (bs.length+1)=(bs++[dg m])++List.replicate (N - (bs++[dg m]).length) 0:=by
   rw [List.take_left' rfl]
   have:List.replicate (N - bs.length) (0:UInt8)=0 :: List.replicate (N - bs.length - 1) 0:=by
    rw [← List.replicate_succ]; congr 1; omega
   rw [this,← List.drop_drop,List.drop_left' rfl]
   rw [show N - bs.length - 1=N - (bs++[dg m]).length by simp; omega]
   simp
  have hcl:(bs++List.replicate (N - bs.length) 0).length=N:=by simp; omega
  have hli:∀ h:Hp,lisR 1 [D.int .u8 0] [(0,.d (.int .u8 (48+(m:Int))))] h=some ([u8 (dg m)],h):=fun h=>by
   rw [hdg]
   simp [lisR,repl,toDs,toD]
  have hx0:¬ i+1 < p.length→0 < (x:Int):=fun h=>by
   rcases hc with ⟨g1,_⟩ | ⟨_,_,_,g4⟩
   ·exact absurd g1 h
   ·have:=g4 (by omega)
    have:=Nat.pow_pos (n:=w+1 - 1) (show 0 < 10 by decide)
    omega
  clear hk
  refine lp_in ?_
  by_cases g1:(i:Int)+1 < (p.length:Int)
  ·simp (disch:=first|omega|simp<;>omega|fail)[decimal_pieces_text_l1,g5,lp',g1,Int.tmod_eq_emod_of_nonneg,Int.tdiv_eq_ediv_of_nonneg,e1,e2,hli]
   refine ap8 (tH_get _) hcl (by omega) ?_
   rw [hcell]
   simp only [tH_set]
   simp (disch:=first|omega|simp<;>omega|fail)[Int.tmod_eq_emod_of_nonneg,Int.tdiv_eq_ediv_of_nonneg,e2]
   simpa [hh] using ih
  ·have g3:=hx0 (by omega)
   simp (disch:=first|omega|simp<;>omega|fail)[decimal_pieces_text_l1,g5,lp',g1,g3,Int.tmod_eq_emod_of_nonneg,Int.tdiv_eq_ediv_of_nonneg,e1,e2,hli]
   refine ap8 (tH_get _) hcl (by omega) ?_
   rw [hcell]
   simp only [tH_set]
   simp (disch:=first|omega|simp<;>omega|fail)[Int.tmod_eq_emod_of_nonneg,Int.tdiv_eq_ediv_of_nonneg,e2]
   simpa [hh] using ih
end Go.Vm
namespace Go.Vm
open Go Go.Am Go.Big
theorem cvT_8 {l:List UInt8} {L N:Nat} (hl:l.length=N) (hL:L≤N):cvT (tH l) (.ref 0 1 0 L N N)=some (S (l.take L)):=by
 simp only [cvT,cellsOf,tH,hget]
 simp [hl,hL,← List.map_take,bytesD_u8]
def txS (p:List Nat) (i:Nat):List UInt8:=if i < p.length then (decD (val Z (p.take i)) (9 * i)).reverse else (itoaN (val Z p)).reverse
theorem txS_len {p:List Nat} (hp:Small Z p) (hne:p≠[]) (i:Nat) (hi:i≤p.length):(txS p i).length≤9 * p.length:=by
 unfold txS
 split
 ·simp [decD_len]; omega
 ·have h1:=val_lt (B:=Z) Z_pos hp
  rw [Z_pow] at h1
  have:=ndg_le h1 (by have:=List.length_pos_iff.2 hne; omega)
  simp [itoaN,decD_len]
  exact this
theorem txS_step {p:List Nat} (hp:Small Z p) (hn:Norm p) {i:Nat} (hi:i < p.length) :
  ∃ w,(i+1 < p.length∧0+w=9∨¬ i+1 < p.length∧0+w≤9∧nth 0 p i < 10 ^ w∧(0 < w→10 ^ (w - 1)≤nth 0 p i))∧txS p (i+1)=txS p i++(decD (nth 0 p i) w).reverse:=by
 obtain ⟨x,hx⟩:∃ x,nth 0 p i=x:=⟨_,rfl⟩
 have hxZ:x < Z:=by rw [← hx]; exact hp.getD Z_pos i
 have hv:=val_take_succ (B:=Z) p hi
 rw [show p.getD i 0=x from hx] at hv
 have hlow:=val_lt (B:=Z) Z_pos (hp.take i)
 rw [List.length_take,Nat.min_eq_left (by omega)] at hlow
 rw [Z_pow] at hlow hv
 obtain ⟨r,hr⟩:∃ r,val Z (p.take i)=r:=⟨_,rfl⟩
 rw [hr] at hlow hv
 rw [hx]
 by_cases hl:i+1 < p.length
 ·refine ⟨9,.inl ⟨hl,rfl⟩,?_⟩
  have hpp:0 < 10 ^ (9 * i):=Nat.pow_pos (by decide)
  rw [txS,if_pos hl,txS,if_pos hi,hr,hv,show 9 * (i+1)=9+9 * i by omega,decD_add,Nat.add_mul_div_left _ _ hpp,Nat.div_eq_of_lt hlow,Nat.zero_add,decD_mod,List.reverse_append]
 ·have hip:i+1=p.length:=by omega
  have hx0:0 < x:=by
   have hne:p≠[]:=fun e=>by rw [e] at hi; simp at hi
   have:=hn hne
   rw [List.getLast_eq_getElem] at this
   rw [← hx,nth_eq _ _ _ hi]
   have e:p.length - 1=i:=by omega
   simp only [e] at this
   omega
  refine ⟨ndg x,.inr ⟨hl,?_,ndg_hi x,fun _=>ndg_lo x hx0⟩,?_⟩
  ·have:ndg x≤9:=ndg_le (by simp only [Z] at hxZ; omega) (by decide)
   omega
  ·rw [txS,if_neg hl,txS,if_pos hi,hr]
   have hval:val Z p=r+10 ^ (9 * i) * x:=by
    have:p.take (i+1)=p:=List.take_of_length_le (by omega)
    rw [← hv,this]
   rw [hval,itoaN_app hx0 hlow,List.reverse_append]
   rfl
theorem text_l0 {p:List Nat} (hp:Small Z p) (hn:Norm p) (hne:p≠[]) (hpl:p.length < 100000000) (k:KL) (h0:Hp) (hh:h0.length=3) {N:Nat} (hN:N=9 * p.length) :
  ∀ (r i:Nat),i+r=p.length→k (.exit 0) [.ref 0 1 0 (txS p p.length).length N N] (tH (txS p p.length++List.replicate (N - (txS p p.length).length) 0)) →
  lp (decimal_pieces_text_l0 (CX Y) (lst u6 p) (lst u6 p) (I p.length)) [] h0 [.ref 0 1 0 (txS p i).length N N,I i] (tH (txS p i++List.replicate (N - (txS p i).length) 0)) k
 | 0,i=>by
  intro hi hk
  have:i=p.length:=by omega
  subst this
  refine lp_in ?_
  simp (disch:=first|omega|simp<;>omega|fail)[decimal_pieces_text_l0]
  exact hk
 | r+1,i=>by
  intro hi hk
  have hil:i < p.length:=by omega
  obtain ⟨w,hw,hst⟩:=txS_step hp hn hil
  have ih:=text_l0 hp hn hne hpl k h0 hh hN r (i+1) (by omega) hk
  have hlen2:=txS_len hp hne (i+1) (by omega)
  rw [hst] at ih hlen2
  have hlw:(txS p i++(decD (nth 0 p i) w).reverse).length=(txS p i).length+w:=by simp [decD_len]
  rw [hlw] at ih hlen2
  have e1:=fun h:Hp=>ix_nth u6 p h (k:=.i64) (i:=(i:Int)) (by omega) (by omega)
  have e2:=fun h:Hp=>ld_u6 p h (j:=i) hil
  simp only [Int.toNat_natCast] at e1
  have hxZ:nth 0 p i < 1000000000:=by have:=hp.getD Z_pos i; simp only [Z] at this; exact this
  refine lp_in ?_
  simp (disch:=first|omega|simp<;>omega|fail)[decimal_pieces_text_l0,e1,e2]
  refine lo (text_l1 hil hpl (by omega) _ _ rfl w 0 (nth 0 p i) (txS p i) hw hxZ (by omega) ?_)
  simp (disch:=first|omega|simp<;>omega|fail)[hh]
  simpa using ih
theorem itoaN_zero:itoaN 0=[48]:=by
 rw [itoaN,show ndg 0=1 by unfold ndg; simp]
 rfl
theorem text_ok {n:Nat} (hb:(dig Z n).length < 100000000):CP Y F.decimal_pieces_text [pcs n] (S (itoaN n)):=by
 refine decimal_pieces_text_i ?_
 obtain ⟨p,hp⟩:∃ p,dig Z n=p:=⟨_,rfl⟩
 have hs:Small Z p:=by rw [← hp]; exact dig_small two_le_Z n
 have hno:Norm p:=by rw [← hp]; exact dig_norm two_le_Z n
 have hv:val Z p=n:=by rw [← hp]; exact val_dig two_le_Z n
 rw [pcs,hp]
 rw [hp] at hb
 have lP:lenV (lst u6 p)=some (I p.length):=rfl
 by_cases hne:p=[]
 ·subst hne
  have:n=0:=by rw [← hv]; rfl
  subst this
  simp (disch:=first|omega|simp<;>omega|fail)[decimal_pieces_text,lP]
  exact out_s itoaN_zero.symm
 ·have hpos:=List.length_pos_iff.2 hne
  obtain ⟨N,hN⟩:∃ N,N=9 * p.length:=⟨_,rfl⟩
  have e9:(9:Int) * (p.length:Int)=(N:Int):=by omega
  have g1:¬ ((p.length:Int)=0):=by omega
  have g2:¬ (p.length=0):=by omega
  have t0:txS p 0=[]:=by rw [txS,if_pos hpos]; simp [decD,val]
  have tl:txS p p.length=(itoaN n).reverse:=by rw [txS,if_neg (by omega),hv]
  have hln:=txS_len hs hne p.length (Nat.le_refl _)
  rw [tl,List.length_reverse] at hln
  simp (disch:=first|omega|simp<;>omega|fail)[decimal_pieces_text,lP,g1,g2,hne,e9]
  refine rh_mk0 (e:=0) (b:=.none) rfl (by omega) (by omega) ?_
  simp (disch:=first|omega|simp<;>omega|fail)[lP]
  have hz:[(1,Bk.data 1 (List.replicate N (D.int IntKind.u8 0)) true false),(0,.none),(0,.none)]=tH (txS p 0++List.replicate (N - (txS p 0).length) 0):=by
   rw [t0]; simp [tH,u8]
  have main:=text_l0 hs hno hne hb (exK [(.exit 0,fun l7 h =>
   cai (CX Y).i h (.fn F.slices_Reverse_byte_byte [] []) [(ge l7 0)] 2 fun v8 h =>
   bnd (cvT h (ge l7 0)) fun v9 =>
   out (S (itoaN n)) v9 h)]) (tH (txS p 0++List.replicate (N - (txS p 0).length) 0)) rfl hN p.length 0 (by omega) (by
   simp only [exK_exit,tl,List.length_reverse,ge_zero]
   obtain ⟨l,hl⟩:∃ l,(itoaN n).reverse++List.replicate (N - (itoaN n).length) 0=l:=⟨_,rfl⟩
   have hll:l.length=N:=by rw [← hl]; simp; omega
   rw [hl]
   have rv:=revB_ok (h:=tH l) rfl (s:=0) (e:=1) (ex:=true) (by simp) (L:=(itoaN n).length) (cap:=N) (tot:=N) (by omega) (by omega) hll
   have hl2:(l.take (itoaN n).length).reverse++l.drop (itoaN n).length=itoaN n++List.replicate (N - (itoaN n).length) 0:=by
    rw [← hl,List.take_left' (by simp),List.drop_left' (by simp),List.reverse_reverse]
   rw [hl2] at rv
   refine cai_of rv ?_ (by simp)
   show bnd (cvT (tH _) _) _
   rw [cvT_8 (by simp; omega) (by omega),List.take_left' rfl]
   exact out_s rfl)
  rw [t0] at main hz
  rw [hz]
  exact main
end Go.Vm
namespace Go.Vm
open Go Go.Am Go.Big
theorem cmpP_loop (a b:List Nat) (hab:a.length=b.length) (hs:a.length < 1000000000) (k:KL):∀ i:Nat,i≤a.length→(ordL a b i=0→k (.exit 0) [] [])→(ordL a b i≠0→k .ret [I (ordL a b i)] []) →
  lp (decimal_pieces_compare_l0 (CX Y) (lst u6 a) (lst u6 b)) [] [] [I ((i:Int) - 1)] [] k
 | 0,_,h0,_=>by
  refine lp_in ?_
  simp (disch:=first|omega|simp<;>omega|fail)[decimal_pieces_compare_l0]
  exact h0 rfl
 | i+1,hi,h0,h1=>by
  have e1:=fun h:Hp=>ix_nth u6 a h (k:=.i64) (i:=(i:Int)) (by omega) (by omega)
  have e2:=fun h:Hp=>ld_u6 a h (j:=i) (by omega)
  have e3:=fun h:Hp=>ix_nth u6 b h (k:=.i64) (i:=(i:Int)) (by omega) (by omega)
  have e4:=fun h:Hp=>ld_u6 b h (j:=i) (by omega)
  simp only [Int.toNat_natCast] at e1 e3
  obtain ⟨x,hx⟩:∃ x,nth 0 a i=x:=⟨_,rfl⟩
  obtain ⟨y,hy⟩:∃ x,nth 0 b i=x:=⟨_,rfl⟩
  rw [hx] at e2
  rw [hy] at e4
  simp only [ordL,show a.getD i 0=x from hx,show b.getD i 0=y from hy] at h0 h1
  have ei:((i+1:Nat):Int) - 1=(i:Int):=by omega
  refine lp_in ?_
  rw [ei]
  by_cases g1:x < y
  ·have g1':(x:Int) < (y:Int):=by omega
   rw [if_pos g1] at h1
   simp (disch:=first|omega|simp<;>omega|fail)[decimal_pieces_compare_l0,e1,e2,e3,e4,g1']
   exact h1 (by decide)
  ·rw [if_neg g1] at h0 h1
   have g1':¬ (x:Int) < (y:Int):=by omega
   by_cases g2:y < x
   ·have g2':(y:Int) < (x:Int):=by omega
    rw [if_pos g2] at h1
    simp (disch:=first|omega|simp<;>omega|fail)[decimal_pieces_compare_l0,e1,e2,e3,e4,g1',g2']
    exact h1 (by decide)
   ·have g2':¬ (y:Int) < (x:Int):=by omega
    rw [if_neg g2] at h0 h1
    have:=cmpP_loop a b hab hs k i (by omega) h0 h1
    simp (disch:=first|omega|simp<;>omega|fail)[decimal_pieces_compare_l0,e1,e2,e3,e4,g1',g2']
    simpa using this
theorem cmpP_ok {a b:Nat} (ha:(dig Z a).length < 1000000000) (hb:(dig Z b).length < 1000000000):CP Y F.decimal_pieces_compare [pcs a,pcs b] (I (cmp a b)):=by
 refine decimal_pieces_compare_i ?_
 have la:lenV (pcs a)=some (I (dig Z a).length):=rfl
 have lb:lenV (pcs b)=some (I (dig Z b).length):=rfl
 by_cases hl:(dig Z a).length=(dig Z b).length
 ·have ho:=ordL_eq Z_pos (dig_small two_le_Z a) (dig_small two_le_Z b) (dig Z a).length (Nat.le_refl _) (by omega)
  rw [List.take_length,hl,List.take_length,val_dig two_le_Z,val_dig two_le_Z,← hl] at ho
  have hli:((dig Z a).length:Int)=((dig Z b).length:Int):=by omega
  simp (disch:=first|omega|simp<;>omega|fail)[decimal_pieces_compare,la,lb,hl]
  refine lo (show lp _ _ _ _ _ _ from ?_)
  rw [← hli]
  refine cmpP_loop (dig Z a) (dig Z b) hl ha _ _ (Nat.le_refl _) (fun h0=>?_) (fun h0=>?_)
  ·simp only [exK_exit]
   exact out_i (by rw [← ho,h0])
  ·simp only [exK_ret2,exK_ret,ge_zero]
   exact out_i (by rw [ho])
 ·have hli:¬ ((dig Z a).length:Int)=((dig Z b).length:Int):=by omega
  rcases Nat.lt_or_ge (dig Z a).length (dig Z b).length with h | h
  ·have:=cmp_len two_le_Z (m:=a) (n:=b) h
   have e:cmp a b = -1:=by simp [cmp,this]
   have e2:mx2 false 1 (mx2 true (-1) (((dig Z a).length:Int) - ((dig Z b).length:Int))) = -1:=by simp [mx2]; omega
   simp (disch:=first|omega|simp<;>omega|fail)[decimal_pieces_compare,la,lb,hl,mxI,e2]
   exact out_i (by rw [e])
  ·have:=cmp_len two_le_Z (m:=b) (n:=a) (by omega)
   have e:cmp a b=1:=by unfold cmp; rw [if_neg (by omega),if_pos this]
   have e2:mx2 false 1 (mx2 true (-1) (((dig Z a).length:Int) - ((dig Z b).length:Int)))=1:=by simp [mx2]; omega
   simp (disch:=first|omega|simp<;>omega|fail)[decimal_pieces_compare,la,lb,hl,mxI,e2]
   exact out_i (by rw [e])
theorem snapS (h:Hp) (l:List UInt8):snap h (S l)=some (S l,h):=rfl
theorem dig_ndg {n d:Nat} (h:ndg n≤d) (hd:d < 90000000):(dig Z n).length < 100000000:=by
 have h1:=ndg_hi n
 have h2:n < Z ^ d:=Nat.lt_of_lt_of_le h1 (by rw [Z_pow]; exact Nat.pow_le_pow_right (by decide) (by omega))
 have:=dig_le h2
 omega
theorem divmod_ok {a b:Nat} (hb:0 < b) (ha:ndg a < 1000000) (hbd:ndg b < 1000000):CP Y F.decimal_DivMod [S (itoaN a),S (itoaN b)] (.tup [S (itoaN (a / b)),S (itoaN (a % b)),I 0]):=by
 refine decimal_DivMod_i ?_
 have hne:¬ itoaN b=[48]:=by
  rw [← itoaN_zero]
  intro e
  have:=congrArg (hornB 0) e
  rw [hornB_itoaN,hornB_itoaN] at this
  omega
 have hla:=dig_ndg (Nat.le_of_lt ha) (by decide)
 have hlb:=dig_ndg (Nat.le_of_lt hbd) (by decide)
 have bo:=both_ok a b
 simp (disch:=first|omega|simp<;>omega|fail)[decimal_DivMod,hne]
 by_cases h18:ndg a≤18∧ndg b≤18
 ·rw [if_pos h18] at bo
  have ha2:a < 1000000000000000000:=by have:=ndg_hi a; have:=Nat.pow_le_pow_right (n:=10) (by decide) h18.1; omega
  refine cd bo ?_
  obtain ⟨q,hq⟩:∃ q,a / b=q:=⟨_,rfl⟩
  obtain ⟨r,hr⟩:∃ r,a % b=r:=⟨_,rfl⟩
  have hqa:q≤a:=by rw [← hq]; exact Nat.div_le_self ..
  have hra:r≤a:=by rw [← hr]; exact Nat.mod_le ..
  have e1:(a:Int) / (b:Int)=(q:Int):=by rw [← hq]; simp
  have e2:(a:Int) % (b:Int)=(r:Int):=by rw [← hr]; simp
  have hb0:¬ ((b:Int)=0):=by omega
  have hb0':¬ (b=0):=by omega
  rw [hq,hr]
  simp (disch:=first|omega|simp<;>omega|fail)[hb0,hb0',Int.tdiv_eq_ediv_of_nonneg,Int.tmod_eq_emod_of_nonneg,e1,e2]
  refine cd (ofU_ok (n:=q) (by omega)) ?_
  simp (disch:=first|omega|simp<;>omega|fail)[hb0,hb0',Int.tdiv_eq_ediv_of_nonneg,Int.tmod_eq_emod_of_nonneg,e1,e2]
  refine cd (ofU_ok (n:=r) (by omega)) ?_
  exact out_tup3 (snapS _ _) (snapS _ _) rfl
 ·rw [if_neg h18] at bo
  refine cd bo ?_
  obtain ⟨ca,hca⟩:∃ ca,ca=ndg a / 9+1:=⟨_,rfl⟩
  obtain ⟨cb,hcb⟩:∃ cb,cb=ndg b / 9+1:=⟨_,rfl⟩
  have ltA:a < Z ^ ca:=Nat.lt_of_lt_of_le (ndg_hi a) (by rw [Z_pow]; exact Nat.pow_le_pow_right (by decide) (by omega))
  have ltB:b < Z ^ cb:=Nat.lt_of_lt_of_le (ndg_hi b) (by rw [Z_pow]; exact Nat.pow_le_pow_right (by decide) (by omega))
  have cA:=cut_ok (h:=[(0,.none),(0,.none)]) rfl (n:=a) (by omega) hca
  have lA:(fixZ ca a).length=ca:=fixZ_len ..
  have lB:(fixZ cb b).length=cb:=fixZ_len ..
  have cB:=cut_ok (h:=[(1,.data 1 ((fixZ ca a).map u6) true false),(0,.none)]) rfl (n:=b) (by omega) hcb
  simp (disch:=first|omega|simp<;>omega|fail)[]
  refine rh_in (cai_new (e:=0) (b:=.none) cA rfl ?_)
  rw [List.length_map,lA]
  simp (disch:=first|omega|simp<;>omega|fail)[]
  refine rh_in (cai_new (e:=0) (b:=.none) cB rfl ?_)
  rw [List.length_map,lB]
  simp (disch:=first|omega|simp<;>omega|fail)[]
  have sA:=snapP6 (h:=[(1,.data 1 ((fixZ ca a).map u6) true false),(1,.data 1 ((fixZ cb b).map u6) true false)]) (s:=0) rfl lA.symm (len:=(dig Z a).length) (cap:=ca) (dig_le ltA) (Nat.le_refl _)
  have sB:=snapP6 (h:=[(1,.data 1 ((fixZ ca a).map u6) true true),(1,.data 1 ((fixZ cb b).map u6) true false)]) (s:=1) rfl lB.symm (len:=(dig Z b).length) (cap:=cb) (dig_le ltB) (Nat.le_refl _)
  rw [fixZ_take ltA] at sA
  rw [fixZ_take ltB] at sB
  simp only [List.set_cons_zero,List.set_cons_succ] at sA sB
  have sAB:snaps [(1,.data 1 ((fixZ ca a).map u6) true false),(1,.data 1 ((fixZ cb b).map u6) true false)] [.ref 0 1 0 (dig Z a).length ca ca,.ref 1 1 0 (dig Z b).length cb cb]=some ([pcs a,pcs b],[(1,.data 1 ((fixZ ca a).map u6) true true),(1,.data 1 ((fixZ cb b).map u6) true true)]):=by
   simp only [snaps,sA,sB]
   rfl
  refine cdz sAB (cmpP_ok (a:=a) (b:=b) (by omega) (by omega)) ?_
  rw [show plainV (I (cmp a b))=true from rfl,if_pos rfl]
  by_cases hab:a < b
  ·have hc:cmp a b = -1:=by simp [cmp,hab]
   rw [Nat.div_eq_of_lt hab,Nat.mod_eq_of_lt hab,itoaN_zero]
   simp (disch:=first|omega|simp<;>omega|fail)[hc]
   exact out_tup3 (snapS _ _) (snapS _ _) rfl
  ·have hc:¬ cmp a b < 0:=by unfold cmp; rw [if_neg hab]; split <;> decide
   have hlen:(dig Z b).length≤(dig Z a).length:=by
    rcases Nat.lt_or_ge (dig Z a).length (dig Z b).length with h | h
    ·exact absurd (cmp_len two_le_Z h) hab
    ·exact h
   have lq:(dig Z (a / b)).length < 100000000:=by
    have:a / b≤a:=Nat.div_le_self ..
    have:=dig_le (Nat.lt_of_le_of_lt this ltA)
    omega
   have lr:(dig Z (a % b)).length < 100000000:=by
    have:a % b≤a:=Nat.mod_le ..
    have:=dig_le (Nat.lt_of_le_of_lt this ltA)
    omega
   by_cases h1:(dig Z b).length=1
   ·have hbZ:b < Z:=by have:=lt_dig b; rw [h1,Nat.pow_one] at this; exact this
    obtain ⟨cb',hcb'⟩:∃ c,cb=c+1:=⟨cb - 1,by omega⟩
    have hn0:nth 0 (fixZ cb b) 0=b:=by rw [hcb',fixZ]; simp [nth,Nat.mod_eq_of_lt hbZ]
    have r1:=ixP6 (h:=[(1,.data 1 ((fixZ ca a).map u6) true false),(1,.data 1 ((fixZ cb b).map u6) true false)]) (s:=1) rfl lB.symm (len:=1) (cap:=cb) (i:=0) (by omega) (by omega) .i64
    have r2:=ldP6 (h:=[(1,.data 1 ((fixZ ca a).map u6) true false),(1,.data 1 ((fixZ cb b).map u6) true false)]) (s:=1) rfl lB.symm (j:=0) (by omega)
    rw [hn0] at r2
    have r1':ixV [(1,Bk.data 1 ((fixZ ca a).map u6) true false),(1,.data 1 ((fixZ cb b).map u6) true false)] 1 (.ref 1 1 0 1 cb cb) (I 0)=some (.ptr 1 1 0 cb):=r1
    simp (disch:=first|omega|simp<;>omega|fail)[hc,h1,r1',r2]
    refine cdz (ds:=[pcs a,U b]) (h':=[(1,.data 1 ((fixZ ca a).map u6) true true),(1,.data 1 ((fixZ cb b).map u6) true false)]) (by simp only [snaps,sA,snapU]; rfl) (smallP_ok (a:=a) (n:=b) (by omega) hb (by omega)) ?_
    rw [show plainV (.tup [pcs (a / b),U (a % b:Nat)])=false from rfl]
    simp (disch:=first|omega|simp<;>omega|fail)[]
    refine cd (args:=[pcs (a / b)]) (text_ok lq) ?_ (by simp [snaps,pcs])
    simp (disch:=first|omega|simp<;>omega|fail)[]
    refine cd (ofU_ok (n:=a % b) (by have:=Nat.mod_lt a hb; simp only [Z] at hbZ; omega)) ?_
    exact out_tup3 (snapS _ _) (snapS _ _) rfl
   ·have h0:(dig Z b).length≠0:=fun e=>by
     have:=lt_dig b
     rw [e] at this; simp at this; omega
    have h1i:¬ ((dig Z b).length:Int)=1:=by omega
    simp (disch:=first|omega|simp<;>omega|fail)[hc,h1,h1i]
    refine cdz sAB (divideP_ok (P:=a) (Q:=b) (by omega) hlen (by have:=dig_le ltA; omega)) ?_
    rw [show plainV (.tup [pcs (a / b),pcs (a % b)])=false from rfl]
    simp (disch:=first|omega|simp<;>omega|fail)[]
    refine cd (args:=[pcs (a / b)]) (text_ok lq) ?_ (by simp [snaps,pcs])
    simp (disch:=first|omega|simp<;>omega|fail)[]
    refine cd (args:=[pcs (a % b)]) (text_ok lr) ?_ (by simp [snaps,pcs])
    exact out_tup3 (snapS _ _) (snapS _ _) rfl
end Go.Vm
