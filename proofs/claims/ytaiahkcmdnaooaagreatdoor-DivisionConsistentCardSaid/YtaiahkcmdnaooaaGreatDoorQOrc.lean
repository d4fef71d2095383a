/- strconv.ParseUint and strconv.ParseInt at digits: laws of the library, laid at this program (the layings printed by the kit's lay-plain.mjs). -/
import Derived.Test.YtaiahkcmdnaooaaGreatDoorQVmC
import Derived.Shelf.Pu.ParseUintPublic10
import Derived.Shelf.Strconv.ParseIntPublic10
import Derived.Test.YtaiahkcmdnaooaaGreatDoorProg
set_option linter.unusedVariables false
set_option linter.unusedSimpArgs false
namespace Go.Proofs
open Go.Shelf
def Tryz.laysPu14_ren:Go.Shelf.Ren:=⟨fun | 14=>206 | 16=>210 | 17=>187 | 19=>218 | 20=>219 | 21=>202 | 22=>203 | 23=>204 | 24=>205 | 25=>216 | 27=>124 | 26=>217 | 28=>157 | 29=>185 | 30=>198 | 31=>199 | 32=>200 | 33=>201 | 35=>209 | 34=>212 | 36=>213 | 37=>214 | 38=>215 | 39=>220 | 40=>221 | n=>n,fun | 9=>9 | 3=>3 | 22=>199 | 24=>196 | 25=>249 | 4=>4 | 34=>245 | 5=>5 | 36=>211 | 37=>233 | 0=>0 | 39=>246 | 21=>21 | 44=>259 | 47=>263 | 50=>266 | 48=>264 | 2=>2 | 52=>240 | 55=>243 | 59=>255 | 60=>252 | 20=>20 | 61=>256 | 65=>267 | 66=>268 | 67=>269 | n=>n,fun | 0=>1 | 1=>2 | 2=>0 | 3=>3 | 4=>4 | n=>n⟩
theorem Tryz.laysPu14:Go.Proofs.LaysPu.n14 Tryz.prog Tryz.laysPu14_ren:={
 mixed:=af
 f14:=Tryz.func206.trans (congrArg some af)
 f16:=Tryz.func210.trans (congrArg some af)
 f17:=Tryz.func187.trans (congrArg some af)
 f19:=Tryz.func218.trans (congrArg some af)
 f20:=Tryz.func219.trans (congrArg some af)
 f21:=Tryz.func202.trans (congrArg some af)
 f22:=Tryz.func203.trans (congrArg some af)
 f23:=Tryz.func204.trans (congrArg some af)
 f24:=Tryz.func205.trans (congrArg some af)
 f25:=Tryz.func216.trans (congrArg some af)
 f26:=Tryz.func217.trans (congrArg some af)
 f27:=Tryz.func124.trans (congrArg some af)
 f28:=Tryz.func157.trans (congrArg some af)
 f29:=Tryz.func185.trans (congrArg some af)
 f30:=Tryz.func198.trans (congrArg some af)
 f31:=Tryz.func199.trans (congrArg some af)
 f32:=Tryz.func200.trans (congrArg some af)
 f33:=Tryz.func201.trans (congrArg some af)
 f34:=Tryz.func212.trans (congrArg some af)
 f35:=Tryz.func209.trans (congrArg some af)
 f36:=Tryz.func213.trans (congrArg some af)
 f37:=Tryz.func214.trans (congrArg some af)
 f38:=Tryz.func215.trans (congrArg some af)
 f39:=Tryz.func220.trans (congrArg some af)
 f40:=Tryz.func221.trans (congrArg some af)
 t0:=Tryz.underlying0
 a0:=Tryz.isAgg0
 z0:=Tryz.sizeOf0
 v0:=Tryz.zeroValue0
 i0:=af
 t2:=Tryz.underlying2
 a2:=Tryz.isAgg2
 z2:=Tryz.sizeOf2
 v2:=Tryz.zeroValue2
 i2:=af
 t3:=Tryz.underlying3
 a3:=Tryz.isAgg3
 z3:=Tryz.sizeOf3
 v3:=Tryz.zeroValue3
 i3:=af
 t4:=Tryz.underlying4
 a4:=Tryz.isAgg4
 z4:=Tryz.sizeOf4
 v4:=Tryz.zeroValue4
 i4:=af
 t5:=Tryz.underlying5
 a5:=Tryz.isAgg5
 z5:=Tryz.sizeOf5
 v5:=Tryz.zeroValue5
 i5:=af
 t9:=Tryz.underlying9
 a9:=Tryz.isAgg9
 z9:=Tryz.sizeOf9
 v9:=Tryz.zeroValue9
 i9:=af
 t20:=Tryz.underlying20
 a20:=Tryz.isAgg20
 z20:=Tryz.sizeOf20
 v20:=Tryz.zeroValue20
 i20:=af
 t21:=Tryz.underlying21
 a21:=Tryz.isAgg21
 z21:=Tryz.sizeOf21
 v21:=Tryz.zeroValue21
 i21:=af
 t22:=Tryz.underlying199
 a22:=Tryz.isAgg199
 z22:=Tryz.sizeOf199
 v22:=Tryz.zeroValue199
 i22:=af
 t24:=Tryz.underlying196
 a24:=Tryz.isAgg196
 z24:=Tryz.sizeOf196
 v24:=Tryz.zeroValue196
 i24:=af
 t25:=Tryz.underlying249
 a25:=Tryz.isAgg249
 z25:=Tryz.sizeOf249
 v25:=Tryz.zeroValue249
 i25:=af
 t34:=Tryz.underlying245
 a34:=Tryz.isAgg245
 z34:=Tryz.sizeOf245
 v34:=Tryz.zeroValue245
 i34:=af
 c34:=af
 t36:=Tryz.underlying211
 a36:=Tryz.isAgg211
 z36:=Tryz.sizeOf211
 v36:=Tryz.zeroValue211
 i36:=af
 t37:=Tryz.underlying233
 a37:=Tryz.isAgg233
 z37:=Tryz.sizeOf233
 v37:=Tryz.zeroValue233
 i37:=af
 t39:=Tryz.underlying246
 a39:=Tryz.isAgg246
 z39:=Tryz.sizeOf246
 v39:=Tryz.zeroValue246
 i39:=af
 t44:=Tryz.underlying259
 a44:=Tryz.isAgg259
 z44:=Tryz.sizeOf259
 v44:=Tryz.zeroValue259
 i44:=af
 t47:=Tryz.underlying263
 a47:=Tryz.isAgg263
 z47:=Tryz.sizeOf263
 v47:=Tryz.zeroValue263
 i47:=af
 t48:=Tryz.underlying264
 a48:=Tryz.isAgg264
 z48:=Tryz.sizeOf264
 v48:=Tryz.zeroValue264
 i48:=af
 t50:=Tryz.underlying266
 a50:=Tryz.isAgg266
 z50:=Tryz.sizeOf266
 v50:=Tryz.zeroValue266
 i50:=af
 t52:=Tryz.underlying240
 a52:=Tryz.isAgg240
 z52:=Tryz.sizeOf240
 v52:=Tryz.zeroValue240
 i52:=af
 t55:=Tryz.underlying243
 a55:=Tryz.isAgg243
 z55:=Tryz.sizeOf243
 v55:=Tryz.zeroValue243
 i55:=af
 t59:=Tryz.underlying255
 a59:=Tryz.isAgg255
 z59:=Tryz.sizeOf255
 v59:=Tryz.zeroValue255
 i59:=af
 t60:=Tryz.underlying252
 a60:=Tryz.isAgg252
 z60:=Tryz.sizeOf252
 v60:=Tryz.zeroValue252
 i60:=af
 t61:=Tryz.underlying256
 a61:=Tryz.isAgg256
 z61:=Tryz.sizeOf256
 t65:=Tryz.underlying267
 a65:=Tryz.isAgg267
 z65:=Tryz.sizeOf267
 v65:=Tryz.zeroValue267
 i65:=af
 t66:=Tryz.underlying268
 a66:=Tryz.isAgg268
 z66:=Tryz.sizeOf268
 v66:=Tryz.zeroValue268
 i66:=af
 t67:=Tryz.underlying269
 a67:=Tryz.isAgg269
 z67:=Tryz.sizeOf269
 v67:=Tryz.zeroValue269
 i67:=af
 g0:=af
 m0:=af
 g1:=af
 m1:=af
 g2:=af
 m2:=af
 g3:=af
 m3:=af
 g4:=af
 m4:=by kernel_rfl }
def Tryz.laysC174_ren:Go.Shelf.Ren:=⟨fun | 174=>174 | 247=>193 | 245=>187 | 287=>210 | 279=>202 | 280=>203 | 281=>204 | 282=>205 | 321=>218 | 322=>219 | 316=>216 | 171=>124 | 205=>217 | 243=>157 | 246=>185 | 283=>198 | 284=>199 | 285=>200 | 286=>201 | 129=>209 | 317=>212 | 318=>213 | 319=>214 | 320=>215 | 337=>220 | 338=>221 | n=>n,fun | 9=>9 | 3=>3 | 2=>2 | 75=>196 | 85=>216 | 4=>4 | 167=>245 | 5=>5 | 53=>199 | 175=>249 | 46=>211 | 168=>246 | 37=>233 | 0=>0 | 210=>259 | 21=>21 | 127=>263 | 145=>266 | 143=>264 | 171=>240 | 173=>243 | 212=>255 | 51=>252 | 20=>20 | 213=>256 | 232=>267 | 233=>268 | 80=>269 | n=>n,fun | 15=>1 | 16=>2 | 17=>0 | 18=>3 | 19=>4 | n=>n⟩
theorem Tryz.laysC174:Go.Proofs.LaysC.n174 Tryz.prog Tryz.laysC174_ren:={
 mixed:=af
 f129:=Tryz.func209.trans (congrArg some af)
 f171:=Tryz.func124.trans (congrArg some af)
 f174:=Tryz.func174.trans (congrArg some af)
 f205:=Tryz.func217.trans (congrArg some af)
 f243:=Tryz.func157.trans (congrArg some af)
 f245:=Tryz.func187.trans (congrArg some af)
 f246:=Tryz.func185.trans (congrArg some af)
 f247:=Tryz.func193.trans (congrArg some af)
 f279:=Tryz.func202.trans (congrArg some af)
 f280:=Tryz.func203.trans (congrArg some af)
 f281:=Tryz.func204.trans (congrArg some af)
 f282:=Tryz.func205.trans (congrArg some af)
 f283:=Tryz.func198.trans (congrArg some af)
 f284:=Tryz.func199.trans (congrArg some af)
 f285:=Tryz.func200.trans (congrArg some af)
 f286:=Tryz.func201.trans (congrArg some af)
 f287:=Tryz.func210.trans (congrArg some af)
 f316:=Tryz.func216.trans (congrArg some af)
 f317:=Tryz.func212.trans (congrArg some af)
 f318:=Tryz.func213.trans (congrArg some af)
 f319:=Tryz.func214.trans (congrArg some af)
 f320:=Tryz.func215.trans (congrArg some af)
 f321:=Tryz.func218.trans (congrArg some af)
 f322:=Tryz.func219.trans (congrArg some af)
 f337:=Tryz.func220.trans (congrArg some af)
 f338:=Tryz.func221.trans (congrArg some af)
 t0:=Tryz.underlying0
 a0:=Tryz.isAgg0
 z0:=Tryz.sizeOf0
 v0:=Tryz.zeroValue0
 t2:=Tryz.underlying2
 a2:=Tryz.isAgg2
 z2:=Tryz.sizeOf2
 v2:=Tryz.zeroValue2
 t3:=Tryz.underlying3
 a3:=Tryz.isAgg3
 z3:=Tryz.sizeOf3
 v3:=Tryz.zeroValue3
 t4:=Tryz.underlying4
 a4:=Tryz.isAgg4
 z4:=Tryz.sizeOf4
 v4:=Tryz.zeroValue4
 t5:=Tryz.underlying5
 a5:=Tryz.isAgg5
 z5:=Tryz.sizeOf5
 v5:=Tryz.zeroValue5
 t9:=Tryz.underlying9
 a9:=Tryz.isAgg9
 z9:=Tryz.sizeOf9
 v9:=Tryz.zeroValue9
 t20:=Tryz.underlying20
 a20:=Tryz.isAgg20
 z20:=Tryz.sizeOf20
 v20:=Tryz.zeroValue20
 t21:=Tryz.underlying21
 a21:=Tryz.isAgg21
 z21:=Tryz.sizeOf21
 v21:=Tryz.zeroValue21
 t37:=Tryz.underlying233
 a37:=Tryz.isAgg233
 z37:=Tryz.sizeOf233
 v37:=Tryz.zeroValue233
 t46:=Tryz.underlying211
 a46:=Tryz.isAgg211
 z46:=Tryz.sizeOf211
 v46:=Tryz.zeroValue211
 t51:=Tryz.underlying252
 a51:=Tryz.isAgg252
 z51:=Tryz.sizeOf252
 v51:=Tryz.zeroValue252
 t53:=Tryz.underlying199
 a53:=Tryz.isAgg199
 z53:=Tryz.sizeOf199
 v53:=Tryz.zeroValue199
 t75:=Tryz.underlying196
 a75:=Tryz.isAgg196
 z75:=Tryz.sizeOf196
 v75:=Tryz.zeroValue196
 t85:=Tryz.underlying216
 a85:=Tryz.isAgg216
 z85:=Tryz.sizeOf216
 v85:=Tryz.zeroValue216
 t127:=Tryz.underlying263
 a127:=Tryz.isAgg263
 z127:=Tryz.sizeOf263
 v127:=Tryz.zeroValue263
 t143:=Tryz.underlying264
 a143:=Tryz.isAgg264
 z143:=Tryz.sizeOf264
 v143:=Tryz.zeroValue264
 t145:=Tryz.underlying266
 a145:=Tryz.isAgg266
 z145:=Tryz.sizeOf266
 v145:=Tryz.zeroValue266
 t167:=Tryz.underlying245
 a167:=Tryz.isAgg245
 z167:=Tryz.sizeOf245
 v167:=Tryz.zeroValue245
 t168:=Tryz.underlying246
 a168:=Tryz.isAgg246
 z168:=Tryz.sizeOf246
 v168:=Tryz.zeroValue246
 t171:=Tryz.underlying240
 a171:=Tryz.isAgg240
 z171:=Tryz.sizeOf240
 v171:=Tryz.zeroValue240
 t173:=Tryz.underlying243
 a173:=Tryz.isAgg243
 z173:=Tryz.sizeOf243
 v173:=Tryz.zeroValue243
 t175:=Tryz.underlying249
 a175:=Tryz.isAgg249
 z175:=Tryz.sizeOf249
 v175:=Tryz.zeroValue249
 t210:=Tryz.underlying259
 a210:=Tryz.isAgg259
 z210:=Tryz.sizeOf259
 v210:=Tryz.zeroValue259
 t212:=Tryz.underlying255
 a212:=Tryz.isAgg255
 z212:=Tryz.sizeOf255
 v212:=Tryz.zeroValue255
 t213:=Tryz.underlying256
 a213:=Tryz.isAgg256
 z213:=Tryz.sizeOf256
 t232:=Tryz.underlying267
 a232:=Tryz.isAgg267
 z232:=Tryz.sizeOf267
 v232:=Tryz.zeroValue267
 t233:=Tryz.underlying268
 a233:=Tryz.isAgg268
 z233:=Tryz.sizeOf268
 v233:=Tryz.zeroValue268
 g15:=af
 g16:=af
 g17:=af
 g18:=af
 g19:=af
 t80:=Tryz.underlying269
 a80:=Tryz.isAgg269
 z80:=Tryz.sizeOf269
 v80:=Tryz.zeroValue269
 i0:=af
 i2:=af
 i3:=af
 i4:=af
 i5:=af
 i9:=af
 i20:=af
 i21:=af
 i37:=af
 i46:=af
 i51:=af
 i53:=af
 i75:=af
 i80:=af
 i85:=af
 i127:=af
 i143:=af
 i145:=af
 i167:=af
 i168:=af
 i171:=af
 i173:=af
 i175:=af
 i210:=af
 i212:=af
 i232:=af
 i233:=af
 m15:=af
 m16:=af
 m17:=af
 m18:=af
 m19:=af
 c0:=af
 c2:=af
 c3:=af
 c4:=af
 c5:=af
 c9:=af
 c20:=af
 c21:=af
 c37:=af
 c46:=af
 c51:=af
 c53:=af
 c75:=af
 c80:=af
 c85:=af
 c127:=af
 c143:=af
 c145:=af
 c167:=af
 c168:=af
 c171:=af
 c173:=af
 c175:=af
 c210:=af
 c212:=af
 c213:=af
 c232:=af
 c233:=by kernel_rfl }
end Go.Proofs
namespace Go.Vm
open Go Go.Am
theorem Nm:∀ (l:List UInt8) (a:Nat),a<=nZ a l
 | [],a=>Z7 _
 | c::l,a=>by
  have h:a*10+(c.toNat-48)<=nZ (a*10+(c.toNat-48)) l:=Nm l _;have e:nZ a (c::l)=nZ (a*10+(c.toNat-48)) l:=rfl;generalize nZ a (c::l)=y at *;generalize nZ (a*10+(c.toNat-48)) l=z at *;generalize c.toNat-48=d at *;omega
theorem pT:∀ (l:List UInt8) (a:Nat),l.all mZ=true->nZ a l<10000000000000000000->Lib.parseUintM (2 ^ 64-1) a l=.ok (nZ a l)
 | [],a,_,_=>rfl
 | c::l,a,h,hd=>by
  simp only [List.all_cons,Z8,mZ,Nat.ble_eq] at h;have e:nZ a (c::l)=nZ (a*10+(c.toNat-48)) l:=rfl;rw [e] at hd ⊢;have hge:=Nm l (a*10+(c.toNat-48));rw [Lib.parseUintM,if_pos h.1,if_neg aa,if_neg aa];exact pT l _ h.2 hd
theorem frz (w:World) (e:TypeId) (s:ByteArray):w.heap.size<=(Lib.bytesWorld w e s).heap.size∧(∀ c,c<w.heap.size->(Lib.bytesWorld w e s).heap[c]? = w.heap[c]?)∧(Lib.bytesWorld w e s).os=w.os∧(Lib.bytesWorld w e s).output=w.output:=
 ⟨by rw [Lib.bytesWorld_size];omega,fun c hc=>Lib.bytesWorld_at_old w e s c hc,rfl,rfl⟩
theorem Sg {c:UInt8} (h:mZ c=true):¬ c.toNat=43∧¬ c.toNat=45:=by
 simp only [mZ,Z8,Nat.ble_eq] at h;omega
theorem Ox {l:List UInt8} (hne:l≠[]) (hall:l.all mZ=true) (hlt:nZ 0 l<9223372036854775808):Lib.parseIntB 64 l=.ok (nZ 0 l:Int):=by
 cases l with
 | nil=>exact absurd rfl hne
 | cons c r=>
  have hc:=Sg (Zu.1 hall c ag)
  have hp:Lib.parseUintB 64 (c::r)=.ok (nZ 0 (c::r)):=by
   rw [Lib.parseUintB,if_neg hne];exact pT _ _ hall aa
  unfold Lib.parseIntB;simp only [hc.1,hc.2,or_self,if_false,hp];rw [if_neg ak,if_neg ag]
theorem Ow {l:List UInt8} (hne:l≠[]) (hall:l.all mZ=true) (hlt:nZ 0 l<9223372036854775808):Lib.parseIntB 64 (45::l)=.ok (-(nZ 0 l:Int)):=by
 have hp:Lib.parseUintB 64 l=.ok (nZ 0 l):=by
  rw [Lib.parseUintB,if_neg hne];exact pT _ _ hall aa
 have h45:(45:UInt8).toNat=45:=rfl;unfold Lib.parseIntB;simp only [h45,or_true,if_true,hp];rw [if_neg ag,if_neg ak]
theorem aad:VH X:=by
 intro f args v h;simp only [X] at h;split at h
 ·rename_i hf;obtain rfl:=Zn hf;unfold I6 at h;split at h
  ·rename_i s a b;split at h
   ·rename_i hc;obtain ⟨rfl,rfl,hne,hall,hsz,hlt⟩:=hc;obtain rfl:=Option.some.inj h;refine ⟨rfl,rfl,⟨_,Go.Proofs.Tryz.func206,af,af⟩,fun w=>?_⟩
    have hp:Lib.parseUintB 64 s.data.toList=.ok (nZ 0 s.data.toList):=by
     rw [Lib.parseUintB,if_neg hne];exact pT _ _ hall hlt
    have hsz2:s.size=s.data.toList.length:=by rw [Array.length_toList]; rfl
    have hmax:s.size≤9223372036854775806:=aa;refine (Go.Proofs.Any.strconv_ParseUint_10_at64_ok Go.Proofs.Tryz.laysPu14 s hmax _ hp w).mono ?_;rintro e w' ⟨rfl,rfl | rfl⟩
    ·exact ⟨rfl,Z7 _,fun _ _=>rfl,rfl,rfl⟩
    ·exact ⟨rfl,frz w _ s⟩
   ·cases h
  ·cases h
 ·split at h
  ·rename_i hf;obtain rfl:=Zn hf
   have key:∀ (s:ByteArray) (z:Int),s.data.toList.length≤1001→Lib.parseIntB 64 s.data.toList=.ok z→v=.tuple #[.int .i64 z,.nilIface]→args=[.string s,.int .i64 10,.int .i64 64] →
     jE args = true ∧ plain v = true ∧ (∃ fn, Go.Proofs.Tryz.prog.funcs[F.fO]? = some fn ∧ fn.body.isNone = false ∧ (fn.name == "runtime.NumGoroutine") = false) ∧
     ∀ w,Calls Go.Proofs.Tryz.prog F.fO args.toArray w fun e w'=>e=.returned v∧w.heap.size≤w'.heap.size∧(∀ c,c < w.heap.size→w'.heap[c]? = w.heap[c]?)∧w'.os=w.os∧w'.output=w.output:=by
    intro s z hl hp hv ha;subst hv; subst ha;refine ⟨rfl,rfl,⟨_,Go.Proofs.Tryz.func174,af,af⟩,fun w=>?_⟩;have hsz2:s.size=s.data.toList.length:=by rw [Array.length_toList]; rfl
    refine (Go.Proofs.Any.strconv_ParseInt_10_at64_ok Go.Proofs.Tryz.laysC174 s aa z hp w).mono ?_;rintro e w' ⟨rfl,rfl | ⟨t,rfl⟩⟩
    ·exact ⟨rfl,Z7 _,fun _ _=>rfl,rfl,rfl⟩
    ·exact ⟨rfl,frz w _ t⟩
   unfold ML at h;split at h
   ·rename_i s a b;split at h
    ·rename_i hab;obtain ⟨rfl,rfl⟩:=hab;split at h
     ·rename_i l hs;split at h
      ·rename_i hc;obtain ⟨hne,hall,hsz,hlt⟩:=hc;obtain rfl:=Option.some.inj h;exact key s _ (by rw [hs]; simp; omega) (by rw [hs]; exact Ow hne hall hlt) rfl rfl
      ·cases h
     ·rename_i l hs;split at h
      ·rename_i hc;obtain ⟨hne,hall,hsz,hlt⟩:=hc;obtain rfl:=Option.some.inj h;exact key s _ aa (Ox hne hall hlt) rfl rfl
      ·cases h
    ·cases h
   ·cases h
  ·cases h
end Go.Vm
