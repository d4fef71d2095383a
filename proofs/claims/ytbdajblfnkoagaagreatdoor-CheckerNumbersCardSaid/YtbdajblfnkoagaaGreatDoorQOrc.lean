/- strconv.ParseUint at digits: a law of the library, laid at this program (the laying printed by the kit's lay-plain.mjs). -/
import Derived.Test.YtbdajblfnkoagaaGreatDoorQVmC
import Derived.Shelf.Pu.ParseUintPublic10
import Derived.Test.YtbdajblfnkoagaaGreatDoorProg
set_option linter.unusedVariables false
set_option linter.unusedSimpArgs false
namespace Go.Proofs
open Go.Shelf
def Tryz.laysPu14_ren:Go.Shelf.Ren:=⟨fun | 14=>205 | 16=>189 | 17=>128 | 19=>202 | 20=>203 | 21=>156 | 22=>157 | 23=>158 | 24=>159 | 25=>190 | 27=>84 | 26=>191 | 28=>120 | 29=>150 | 30=>183 | 31=>184 | 32=>185 | 33=>186 | 35=>141 | 34=>198 | 36=>199 | 37=>200 | 38=>201 | 39=>207 | 40=>208 | n=>n,fun | 9=>9 | 3=>3 | 22=>140 | 24=>127 | 25=>231 | 4=>4 | 34=>194 | 5=>5 | 36=>151 | 37=>159 | 0=>0 | 39=>197 | 21=>21 | 44=>235 | 47=>193 | 50=>251 | 48=>249 | 2=>2 | 52=>224 | 55=>226 | 59=>245 | 60=>135 | 20=>20 | 61=>246 | 65=>259 | 66=>260 | 67=>164 | n=>n,fun | 0=>0 | 1=>1 | 2=>2 | 3=>4 | 4=>5 | n=>n⟩
theorem Tryz.laysPu14:Go.Proofs.LaysPu.n14 Tryz.prog Tryz.laysPu14_ren:={
 mixed:=by kernel_rfl
 f14:=Tryz.func205.trans (congrArg some (by kernel_rfl))
 f16:=Tryz.func189.trans (congrArg some (by kernel_rfl))
 f17:=Tryz.func128.trans (congrArg some (by kernel_rfl))
 f19:=Tryz.func202.trans (congrArg some (by kernel_rfl))
 f20:=Tryz.func203.trans (congrArg some (by kernel_rfl))
 f21:=Tryz.func156.trans (congrArg some (by kernel_rfl))
 f22:=Tryz.func157.trans (congrArg some (by kernel_rfl))
 f23:=Tryz.func158.trans (congrArg some (by kernel_rfl))
 f24:=Tryz.func159.trans (congrArg some (by kernel_rfl))
 f25:=Tryz.func190.trans (congrArg some (by kernel_rfl))
 f26:=Tryz.func191.trans (congrArg some (by kernel_rfl))
 f27:=Tryz.func84.trans (congrArg some (by kernel_rfl))
 f28:=Tryz.func120.trans (congrArg some (by kernel_rfl))
 f29:=Tryz.func150.trans (congrArg some (by kernel_rfl))
 f30:=Tryz.func183.trans (congrArg some (by kernel_rfl))
 f31:=Tryz.func184.trans (congrArg some (by kernel_rfl))
 f32:=Tryz.func185.trans (congrArg some (by kernel_rfl))
 f33:=Tryz.func186.trans (congrArg some (by kernel_rfl))
 f34:=Tryz.func198.trans (congrArg some (by kernel_rfl))
 f35:=Tryz.func141.trans (congrArg some (by kernel_rfl))
 f36:=Tryz.func199.trans (congrArg some (by kernel_rfl))
 f37:=Tryz.func200.trans (congrArg some (by kernel_rfl))
 f38:=Tryz.func201.trans (congrArg some (by kernel_rfl))
 f39:=Tryz.func207.trans (congrArg some (by kernel_rfl))
 f40:=Tryz.func208.trans (congrArg some (by kernel_rfl))
 t0:=Tryz.underlying0
 a0:=Tryz.isAgg0
 z0:=Tryz.sizeOf0
 v0:=Tryz.zeroValue0
 i0:=by kernel_rfl
 t2:=Tryz.underlying2
 a2:=Tryz.isAgg2
 z2:=Tryz.sizeOf2
 v2:=Tryz.zeroValue2
 i2:=by kernel_rfl
 t3:=Tryz.underlying3
 a3:=Tryz.isAgg3
 z3:=Tryz.sizeOf3
 v3:=Tryz.zeroValue3
 i3:=by kernel_rfl
 t4:=Tryz.underlying4
 a4:=Tryz.isAgg4
 z4:=Tryz.sizeOf4
 v4:=Tryz.zeroValue4
 i4:=by kernel_rfl
 t5:=Tryz.underlying5
 a5:=Tryz.isAgg5
 z5:=Tryz.sizeOf5
 v5:=Tryz.zeroValue5
 i5:=by kernel_rfl
 t9:=Tryz.underlying9
 a9:=Tryz.isAgg9
 z9:=Tryz.sizeOf9
 v9:=Tryz.zeroValue9
 i9:=by kernel_rfl
 t20:=Tryz.underlying20
 a20:=Tryz.isAgg20
 z20:=Tryz.sizeOf20
 v20:=Tryz.zeroValue20
 i20:=by kernel_rfl
 t21:=Tryz.underlying21
 a21:=Tryz.isAgg21
 z21:=Tryz.sizeOf21
 v21:=Tryz.zeroValue21
 i21:=by kernel_rfl
 t22:=Tryz.underlying140
 a22:=Tryz.isAgg140
 z22:=Tryz.sizeOf140
 v22:=Tryz.zeroValue140
 i22:=by kernel_rfl
 t24:=Tryz.underlying127
 a24:=Tryz.isAgg127
 z24:=Tryz.sizeOf127
 v24:=Tryz.zeroValue127
 i24:=by kernel_rfl
 t25:=Tryz.underlying231
 a25:=Tryz.isAgg231
 z25:=Tryz.sizeOf231
 v25:=Tryz.zeroValue231
 i25:=by kernel_rfl
 t34:=Tryz.underlying194
 a34:=Tryz.isAgg194
 z34:=Tryz.sizeOf194
 v34:=Tryz.zeroValue194
 i34:=by kernel_rfl
 c34:=by kernel_rfl
 t36:=Tryz.underlying151
 a36:=Tryz.isAgg151
 z36:=Tryz.sizeOf151
 v36:=Tryz.zeroValue151
 i36:=by kernel_rfl
 t37:=Tryz.underlying159
 a37:=Tryz.isAgg159
 z37:=Tryz.sizeOf159
 v37:=Tryz.zeroValue159
 i37:=by kernel_rfl
 t39:=Tryz.underlying197
 a39:=Tryz.isAgg197
 z39:=Tryz.sizeOf197
 v39:=Tryz.zeroValue197
 i39:=by kernel_rfl
 t44:=Tryz.underlying235
 a44:=Tryz.isAgg235
 z44:=Tryz.sizeOf235
 v44:=Tryz.zeroValue235
 i44:=by kernel_rfl
 t47:=Tryz.underlying193
 a47:=Tryz.isAgg193
 z47:=Tryz.sizeOf193
 v47:=Tryz.zeroValue193
 i47:=by kernel_rfl
 t48:=Tryz.underlying249
 a48:=Tryz.isAgg249
 z48:=Tryz.sizeOf249
 v48:=Tryz.zeroValue249
 i48:=by kernel_rfl
 t50:=Tryz.underlying251
 a50:=Tryz.isAgg251
 z50:=Tryz.sizeOf251
 v50:=Tryz.zeroValue251
 i50:=by kernel_rfl
 t52:=Tryz.underlying224
 a52:=Tryz.isAgg224
 z52:=Tryz.sizeOf224
 v52:=Tryz.zeroValue224
 i52:=by kernel_rfl
 t55:=Tryz.underlying226
 a55:=Tryz.isAgg226
 z55:=Tryz.sizeOf226
 v55:=Tryz.zeroValue226
 i55:=by kernel_rfl
 t59:=Tryz.underlying245
 a59:=Tryz.isAgg245
 z59:=Tryz.sizeOf245
 v59:=Tryz.zeroValue245
 i59:=by kernel_rfl
 t60:=Tryz.underlying135
 a60:=Tryz.isAgg135
 z60:=Tryz.sizeOf135
 v60:=Tryz.zeroValue135
 i60:=by kernel_rfl
 t61:=Tryz.underlying246
 a61:=Tryz.isAgg246
 z61:=Tryz.sizeOf246
 t65:=Tryz.underlying259
 a65:=Tryz.isAgg259
 z65:=Tryz.sizeOf259
 v65:=Tryz.zeroValue259
 i65:=by kernel_rfl
 t66:=Tryz.underlying260
 a66:=Tryz.isAgg260
 z66:=Tryz.sizeOf260
 v66:=Tryz.zeroValue260
 i66:=by kernel_rfl
 t67:=Tryz.underlying164
 a67:=Tryz.isAgg164
 z67:=Tryz.sizeOf164
 v67:=Tryz.zeroValue164
 i67:=by kernel_rfl
 g0:=by kernel_rfl
 m0:=by kernel_rfl
 g1:=by kernel_rfl
 m1:=by kernel_rfl
 g2:=by kernel_rfl
 m2:=by kernel_rfl
 g3:=by kernel_rfl
 m3:=by kernel_rfl
 g4:=by kernel_rfl
 m4:=by kernel_rfl }
end Go.Proofs
namespace Go.Vm
open Go Go.Am
theorem dval_ge:∀ (l:List UInt8) (a:Nat),a≤dval a l
 | [],a=>Nat.le_refl _
 | c :: l,a=>by
  have h:a * 10+(c.toNat - 48)≤dval (a * 10+(c.toNat - 48)) l:=dval_ge l _
  have e:dval a (c :: l)=dval (a * 10+(c.toNat - 48)) l:=rfl
  generalize dval a (c :: l)=y at *
  generalize dval (a * 10+(c.toNat - 48)) l=z at *
  generalize c.toNat - 48=d at *
  omega
theorem parse_digits:∀ (l:List UInt8) (a:Nat),l.all digitB=true→dval a l < 10000000000000000000→Lib.parseUintM (2 ^ 64 - 1) a l=.ok (dval a l)
 | [],a,_,_=>rfl
 | c :: l,a,h,hd=>by
  simp only [List.all_cons,Bool.and_eq_true,digitB,Nat.ble_eq] at h
  have e:dval a (c :: l)=dval (a * 10+(c.toNat - 48)) l:=rfl
  rw [e] at hd ⊢
  have hge:=dval_ge l (a * 10+(c.toNat - 48))
  rw [Lib.parseUintM,if_pos h.1,if_neg (by omega),if_neg (by omega)]
  exact parse_digits l _ h.2 hd
theorem frz (w:World) (e:TypeId) (s:ByteArray):w.heap.size≤(Lib.bytesWorld w e s).heap.size∧(∀ c,c < w.heap.size→(Lib.bytesWorld w e s).heap[c]? = w.heap[c]?)∧(Lib.bytesWorld w e s).os=w.os∧(Lib.bytesWorld w e s).output=w.output :=
 ⟨by rw [Lib.bytesWorld_size]; omega,fun c hc=>Lib.bytesWorld_at_old w e s c hc,rfl,rfl⟩
theorem orcOk:OrcOk X:=by
 intro f args v h
 simp only [X] at h
 split at h
 ·rename_i hf
  obtain rfl:=Nat.eq_of_beq_eq_true hf
  unfold puOrc at h
  split at h
  ·rename_i s a b
   split at h
   ·rename_i hc
    obtain ⟨rfl,rfl,hne,hall,hsz,hlt⟩:=hc
    obtain rfl:=Option.some.inj h
    refine ⟨rfl,rfl,⟨_,Go.Proofs.Tryz.func205,by kernel_rfl,by kernel_rfl⟩,fun w=>?_⟩
    have hp:Lib.parseUintB 64 s.data.toList=.ok (dval 0 s.data.toList):=by
     rw [Lib.parseUintB,if_neg hne]
     exact parse_digits _ _ hall hlt
    have hsz2:s.size=s.data.toList.length:=by rw [Array.length_toList]; rfl
    have hmax:s.size≤9223372036854775806:=by omega
    refine (Go.Proofs.Any.strconv_ParseUint_10_at64_ok Go.Proofs.Tryz.laysPu14 s hmax _ hp w).mono ?_
    rintro e w' ⟨rfl,rfl | rfl⟩
    ·exact ⟨rfl,Nat.le_refl _,fun _ _=>rfl,rfl,rfl⟩
    ·exact ⟨rfl,frz w _ s⟩
   ·cases h
  ·cases h
 ·cases h
end Go.Vm
