/- strconv.ParseUint and strconv.ParseInt at digits: laws of the library, laid at this program (the layings printed by the kit's lay-plain.mjs). -/
import Derived.Test.YtaiahkcmdnaooaaGreatDoorQVmC
import Derived.Shelf.Pu.ParseUintPublic10
import Derived.Shelf.Strconv.ParseIntPublic10
import Derived.Test.YtaiahkcmdnaooaaGreatDoorProg
set_option linter.unusedVariables false
set_option linter.unusedSimpArgs false
namespace Go.Proofs
open Go.Shelf
def Tryz.laysPu14_ren:Go.Shelf.Ren:=⟨fun | 14=>206 | 16=>210 | 17=>187 | 19=>218 | 20=>219 | 21=>202 | 22=>203 | 23=>204 | 24=>205 | 25=>216 | 27=>124 | 26=>217 | 28=>157 | 29=>185 | 30=>198 | 31=>199 | 32=>200 | 33=>201 | 35=>209 | 34=>212 | 36=>213 | 37=>214 | 38=>215 | 39=>220 | 40=>221 | n=>n,fun | 9=>9 | 3=>3 | 22=>199 | 24=>196 | 25=>249 | 4=>4 | 34=>245 | 5=>5 | 36=>211 | 37=>233 | 0=>0 | 39=>246 | 21=>21 | 44=>259 | 47=>263 | 50=>266 | 48=>264 | 2=>2 | 52=>240 | 55=>243 | 59=>255 | 60=>252 | 20=>20 | 61=>256 | 65=>267 | 66=>268 | 67=>269 | n=>n,fun | 0=>1 | 1=>2 | 2=>0 | 3=>3 | 4=>4 | n=>n⟩
theorem Tryz.laysPu14:Go.Proofs.LaysPu.n14 Tryz.prog Tryz.laysPu14_ren:={
 mixed:=ag
 f14:=Tryz.func206.trans (congrArg some ag)
 f16:=Tryz.func210.trans (congrArg some ag)
 f17:=Tryz.func187.trans (congrArg some ag)
 f19:=Tryz.func218.trans (congrArg some ag)
 f20:=Tryz.func219.trans (congrArg some ag)
 f21:=Tryz.func202.trans (congrArg some ag)
 f22:=Tryz.func203.trans (congrArg some ag)
 f23:=Tryz.func204.trans (congrArg some ag)
 f24:=Tryz.func205.trans (congrArg some ag)
 f25:=Tryz.func216.trans (congrArg some ag)
 f26:=Tryz.func217.trans (congrArg some ag)
 f27:=Tryz.func124.trans (congrArg some ag)
 f28:=Tryz.func157.trans (congrArg some ag)
 f29:=Tryz.func185.trans (congrArg some ag)
 f30:=Tryz.func198.trans (congrArg some ag)
 f31:=Tryz.func199.trans (congrArg some ag)
 f32:=Tryz.func200.trans (congrArg some ag)
 f33:=Tryz.func201.trans (congrArg some ag)
 f34:=Tryz.func212.trans (congrArg some ag)
 f35:=Tryz.func209.trans (congrArg some ag)
 f36:=Tryz.func213.trans (congrArg some ag)
 f37:=Tryz.func214.trans (congrArg some ag)
 f38:=Tryz.func215.trans (congrArg some ag)
 f39:=Tryz.func220.trans (congrArg some ag)
 f40:=Tryz.func221.trans (congrArg some ag)
 t0:=Tryz.underlying0
 a0:=Tryz.isAgg0
 z0:=Tryz.sizeOf0
 v0:=Tryz.zeroValue0
 i0:=ag
 t2:=Tryz.underlying2
 a2:=Tryz.isAgg2
 z2:=Tryz.sizeOf2
 v2:=Tryz.zeroValue2
 i2:=ag
 t3:=Tryz.underlying3
 a3:=Tryz.isAgg3
 z3:=Tryz.sizeOf3
 v3:=Tryz.zeroValue3
 i3:=ag
 t4:=Tryz.underlying4
 a4:=Tryz.isAgg4
 z4:=Tryz.sizeOf4
 v4:=Tryz.zeroValue4
 i4:=ag
 t5:=Tryz.underlying5
 a5:=Tryz.isAgg5
 z5:=Tryz.sizeOf5
 v5:=Tryz.zeroValue5
 i5:=ag
 t9:=Tryz.underlying9
 a9:=Tryz.isAgg9
 z9:=Tryz.sizeOf9
 v9:=Tryz.zeroValue9
 i9:=ag
 t20:=Tryz.underlying20
 a20:=Tryz.isAgg20
 z20:=Tryz.sizeOf20
 v20:=Tryz.zeroValue20
 i20:=ag
 t21:=Tryz.underlying21
 a21:=Tryz.isAgg21
 z21:=Tryz.sizeOf21
 v21:=Tryz.zeroValue21
 i21:=ag
 t22:=Tryz.underlying199
 a22:=Tryz.isAgg199
 z22:=Tryz.sizeOf199
 v22:=Tryz.zeroValue199
 i22:=ag
 t24:=Tryz.underlying196
 a24:=Tryz.isAgg196
 z24:=Tryz.sizeOf196
 v24:=Tryz.zeroValue196
 i24:=ag
 t25:=Tryz.underlying249
 a25:=Tryz.isAgg249
 z25:=Tryz.sizeOf249
 v25:=Tryz.zeroValue249
 i25:=ag
 t34:=Tryz.underlying245
 a34:=Tryz.isAgg245
 z34:=Tryz.sizeOf245
 v34:=Tryz.zeroValue245
 i34:=ag
 c34:=ag
 t36:=Tryz.underlying211
 a36:=Tryz.isAgg211
 z36:=Tryz.sizeOf211
 v36:=Tryz.zeroValue211
 i36:=ag
 t37:=Tryz.underlying233
 a37:=Tryz.isAgg233
 z37:=Tryz.sizeOf233
 v37:=Tryz.zeroValue233
 i37:=ag
 t39:=Tryz.underlying246
 a39:=Tryz.isAgg246
 z39:=Tryz.sizeOf246
 v39:=Tryz.zeroValue246
 i39:=ag
 t44:=Tryz.underlying259
 a44:=Tryz.isAgg259
 z44:=Tryz.sizeOf259
 v44:=Tryz.zeroValue259
 i44:=ag
 t47:=Tryz.underlying263
 a47:=Tryz.isAgg263
 z47:=Tryz.sizeOf263
 v47:=Tryz.zeroValue263
 i47:=ag
 t48:=Tryz.underlying264
 a48:=Tryz.isAgg264
 z48:=Tryz.sizeOf264
 v48:=Tryz.zeroValue264
 i48:=ag
 t50:=Tryz.underlying266
 a50:=Tryz.isAgg266
 z50:=Tryz.sizeOf266
 v50:=Tryz.zeroValue266
 i50:=ag
 t52:=Tryz.underlying240
 a52:=Tryz.isAgg240
 z52:=Tryz.sizeOf240
 v52:=Tryz.zeroValue240
 i52:=ag
 t55:=Tryz.underlying243
 a55:=Tryz.isAgg243
 z55:=Tryz.sizeOf243
 v55:=Tryz.zeroValue243
 i55:=ag
 t59:=Tryz.underlying255
 a59:=Tryz.isAgg255
 z59:=Tryz.sizeOf255
 v59:=Tryz.zeroValue255
 i59:=ag
 t60:=Tryz.underlying252
 a60:=Tryz.isAgg252
 z60:=Tryz.sizeOf252
 v60:=Tryz.zeroValue252
 i60:=ag
 t61:=Tryz.underlying256
 a61:=Tryz.isAgg256
 z61:=Tryz.sizeOf256
 t65:=Tryz.underlying267
 a65:=Tryz.isAgg267
 z65:=Tryz.sizeOf267
 v65:=Tryz.zeroValue267
 i65:=ag
 t66:=Tryz.underlying268
 a66:=Tryz.isAgg268
 z66:=Tryz.sizeOf268
 v66:=Tryz.zeroValue268
 i66:=ag
 t67:=Tryz.underlying269
 a67:=Tryz.isAgg269
 z67:=Tryz.sizeOf269
 v67:=Tryz.zeroValue269
 i67:=ag
 g0:=ag
 m0:=ag
 g1:=ag
 m1:=ag
 g2:=ag
 m2:=ag
 g3:=ag
 m3:=ag
 g4:=ag
 m4:=by kernel_rfl }
def Tryz.laysC174_ren:Go.Shelf.Ren:=⟨fun | 174=>174 | 247=>193 | 245=>187 | 287=>210 | 279=>202 | 280=>203 | 281=>204 | 282=>205 | 321=>218 | 322=>219 | 316=>216 | 171=>124 | 205=>217 | 243=>157 | 246=>185 | 283=>198 | 284=>199 | 285=>200 | 286=>201 | 129=>209 | 317=>212 | 318=>213 | 319=>214 | 320=>215 | 337=>220 | 338=>221 | n=>n,fun | 9=>9 | 3=>3 | 2=>2 | 75=>196 | 85=>216 | 4=>4 | 167=>245 | 5=>5 | 53=>199 | 175=>249 | 46=>211 | 168=>246 | 37=>233 | 0=>0 | 210=>259 | 21=>21 | 127=>263 | 145=>266 | 143=>264 | 171=>240 | 173=>243 | 212=>255 | 51=>252 | 20=>20 | 213=>256 | 232=>267 | 233=>268 | 80=>269 | n=>n,fun | 15=>1 | 16=>2 | 17=>0 | 18=>3 | 19=>4 | n=>n⟩
theorem Tryz.laysC174:Go.Proofs.LaysC.n174 Tryz.prog Tryz.laysC174_ren:={
 mixed:=ag
 f129:=Tryz.func209.trans (congrArg some ag)
 f171:=Tryz.func124.trans (congrArg some ag)
 f174:=Tryz.func174.trans (congrArg some ag)
 f205:=Tryz.func217.trans (congrArg some ag)
 f243:=Tryz.func157.trans (congrArg some ag)
 f245:=Tryz.func187.trans (congrArg some ag)
 f246:=Tryz.func185.trans (congrArg some ag)
 f247:=Tryz.func193.trans (congrArg some ag)
 f279:=Tryz.func202.trans (congrArg some ag)
 f280:=Tryz.func203.trans (congrArg some ag)
 f281:=Tryz.func204.trans (congrArg some ag)
 f282:=Tryz.func205.trans (congrArg some ag)
 f283:=Tryz.func198.trans (congrArg some ag)
 f284:=Tryz.func199.trans (congrArg some ag)
 f285:=Tryz.func200.trans (congrArg some ag)
 f286:=Tryz.func201.trans (congrArg some ag)
 f287:=Tryz.func210.trans (congrArg some ag)
 f316:=Tryz.func216.trans (congrArg some ag)
 f317:=Tryz.func212.trans (congrArg some ag)
 f318:=Tryz.func213.trans (congrArg some ag)
 f319:=Tryz.func214.trans (congrArg some ag)
 f320:=Tryz.func215.trans (congrArg some ag)
 f321:=Tryz.func218.trans (congrArg some ag)
 f322:=Tryz.func219.trans (congrArg some ag)
 f337:=Tryz.func220.trans (congrArg some ag)
 f338:=Tryz.func221.trans (congrArg some ag)
 t0:=Tryz.underlying0
 a0:=Tryz.isAgg0
 z0:=Tryz.sizeOf0
 v0:=Tryz.zeroValue0
 t2:=Tryz.underlying2
 a2:=Tryz.isAgg2
 z2:=Tryz.sizeOf2
 v2:=Tryz.zeroValue2
 t3:=Tryz.underlying3
 a3:=Tryz.isAgg3
 z3:=Tryz.sizeOf3
 v3:=Tryz.zeroValue3
 t4:=Tryz.underlying4
 a4:=Tryz.isAgg4
 z4:=Tryz.sizeOf4
 v4:=Tryz.zeroValue4
 t5:=Tryz.underlying5
 a5:=Tryz.isAgg5
 z5:=Tryz.sizeOf5
 v5:=Tryz.zeroValue5
 t9:=Tryz.underlying9
 a9:=Tryz.isAgg9
 z9:=Tryz.sizeOf9
 v9:=Tryz.zeroValue9
 t20:=Tryz.underlying20
 a20:=Tryz.isAgg20
 z20:=Tryz.sizeOf20
 v20:=Tryz.zeroValue20
 t21:=Tryz.underlying21
 a21:=Tryz.isAgg21
 z21:=Tryz.sizeOf21
 v21:=Tryz.zeroValue21
 t37:=Tryz.underlying233
 a37:=Tryz.isAgg233
 z37:=Tryz.sizeOf233
 v37:=Tryz.zeroValue233
 t46:=Tryz.underlying211
 a46:=Tryz.isAgg211
 z46:=Tryz.sizeOf211
 v46:=Tryz.zeroValue211
 t51:=Tryz.underlying252
 a51:=Tryz.isAgg252
 z51:=Tryz.sizeOf252
 v51:=Tryz.zeroValue252
 t53:=Tryz.underlying199
 a53:=Tryz.isAgg199
 z53:=Tryz.sizeOf199
 v53:=Tryz.zeroValue199
 t75:=Tryz.underlying196
 a75:=Tryz.isAgg196
 z75:=Tryz.sizeOf196
 v75:=Tryz.zeroValue196
 t85:=Tryz.underlying216
 a85:=Tryz.isAgg216
 z85:=Tryz.sizeOf216
 v85:=Tryz.zeroValue216
 t127:=Tryz.underlying263
 a127:=Tryz.isAgg263
 z127:=Tryz.sizeOf263
 v127:=Tryz.zeroValue263
 t143:=Tryz.underlying264
 a143:=Tryz.isAgg264
 z143:=Tryz.sizeOf264
 v143:=Tryz.zeroValue264
 t145:=Tryz.underlying266
 a145:=Tryz.isAgg266
 z145:=Tryz.sizeOf266
 v145:=Tryz.zeroValue266
 t167:=Tryz.underlying245
 a167:=Tryz.isAgg245
 z167:=Tryz.sizeOf245
 v167:=Tryz.zeroValue245
 t168:=Tryz.underlying246
 a168:=Tryz.isAgg246
 z168:=Tryz.sizeOf246
 v168:=Tryz.zeroValue246
 t171:=Tryz.underlying240
 a171:=Tryz.isAgg240
 z171:=Tryz.sizeOf240
 v171:=Tryz.zeroValue240
 t173:=Tryz.underlying243
 a173:=Tryz.isAgg243
 z173:=Tryz.sizeOf243
 v173:=Tryz.zeroValue243
 t175:=Tryz.underlying249
 a175:=Tryz.isAgg249
 z175:=Tryz.sizeOf249
 v175:=Tryz.zeroValue249
 t210:=Tryz.underlying259
 a210:=Tryz.isAgg259
 z210:=Tryz.sizeOf259
 v210:=Tryz.zeroValue259
 t212:=Tryz.underlying255
 a212:=Tryz.isAgg255
 z212:=Tryz.sizeOf255
 v212:=Tryz.zeroValue255
 t213:=Tryz.underlying256
 a213:=Tryz.isAgg256
 z213:=Tryz.sizeOf256
 t232:=Tryz.underlying267
 a232:=Tryz.isAgg267
 z232:=Tryz.sizeOf267
 v232:=Tryz.zeroValue267
 t233:=Tryz.underlying268
 a233:=Tryz.isAgg268
 z233:=Tryz.sizeOf268
 v233:=Tryz.zeroValue268
 g15:=ag
 g16:=ag
 g17:=ag
 g18:=ag
 g19:=ag
 t80:=Tryz.underlying269
 a80:=Tryz.isAgg269
 z80:=Tryz.sizeOf269
 v80:=Tryz.zeroValue269
 i0:=ag
 i2:=ag
 i3:=ag
 i4:=ag
 i5:=ag
 i9:=ag
 i20:=ag
 i21:=ag
 i37:=ag
 i46:=ag
 i51:=ag
 i53:=ag
 i75:=ag
 i80:=ag
 i85:=ag
 i127:=ag
 i143:=ag
 i145:=ag
 i167:=ag
 i168:=ag
 i171:=ag
 i173:=ag
 i175:=ag
 i210:=ag
 i212:=ag
 i232:=ag
 i233:=ag
 m15:=ag
 m16:=ag
 m17:=ag
 m18:=ag
 m19:=ag
 c0:=ag
 c2:=ag
 c3:=ag
 c4:=ag
 c5:=ag
 c9:=ag
 c20:=ag
 c21:=ag
 c37:=ag
 c46:=ag
 c51:=ag
 c53:=ag
 c75:=ag
 c80:=ag
 c85:=ag
 c127:=ag
 c143:=ag
 c145:=ag
 c167:=ag
 c168:=ag
 c171:=ag
 c173:=ag
 c175:=ag
 c210:=ag
 c212:=ag
 c213:=ag
 c232:=ag
 c233:=by kernel_rfl }
end Go.Proofs
namespace Go.Vm
open Go Go.Am
theorem J5:∀ (l:List UInt8) (a:Nat),a<=lW a l
 | [],a=>Z7 _
 | c::l,a=>by
  have h:a*10+(c.toNat-48)<=lW (a*10+(c.toNat-48)) l:=J5 l _;have e:lW a (c::l)=lW (a*10+(c.toNat-48)) l:=rfl;generalize lW a (c::l)=y at *;generalize lW (a*10+(c.toNat-48)) l=z at *;generalize c.toNat-48=d at *;omega
theorem nH:∀ (l:List UInt8) (a:Nat),l.all kN=true->lW a l<10000000000000000000->Lib.parseUintM (2 ^ 64-1) a l=.ok (lW a l)
 | [],a,_,_=>rfl
 | c::l,a,h,hd=>by
  simp only [List.all_cons,Z8,kN,Nat.ble_eq] at h;have e:lW a (c::l)=lW (a*10+(c.toNat-48)) l:=rfl;rw [e] at hd ⊢;have hge:=J5 l (a*10+(c.toNat-48));rw [Lib.parseUintM,if_pos h.1,if_neg aa,if_neg aa];exact nH l _ h.2 hd
theorem frz (w:World) (e:TypeId) (s:ByteArray):w.heap.size<=(Lib.bytesWorld w e s).heap.size∧(∀ c,c<w.heap.size->(Lib.bytesWorld w e s).heap[c]? = w.heap[c]?)∧(Lib.bytesWorld w e s).os=w.os∧(Lib.bytesWorld w e s).output=w.output:=
 ⟨by rw [Lib.bytesWorld_size];omega,fun c hc=>Lib.bytesWorld_at_old w e s c hc,rfl,rfl⟩
theorem OV {c:UInt8} (h:kN c=true):¬ c.toNat=43∧¬ c.toNat=45:=by
 simp only [kN,Z8,Nat.ble_eq] at h;omega
theorem Lc {l:List UInt8} (hne:l≠[]) (hall:l.all kN=true) (hlt:lW 0 l<9223372036854775808):Lib.parseIntB 64 l=.ok (lW 0 l:Int):=by
 cases l with
 | nil=>exact absurd rfl hne
 | cons c r=>
  have hc:=OV (Zv.1 hall c af)
  have hp:Lib.parseUintB 64 (c::r)=.ok (lW 0 (c::r)):=by
   rw [Lib.parseUintB,if_neg hne];exact nH _ _ hall aa
  unfold Lib.parseIntB;simp only [hc.1,hc.2,or_self,if_false,hp];rw [if_neg aR,if_neg af]
theorem Lb {l:List UInt8} (hne:l≠[]) (hall:l.all kN=true) (hlt:lW 0 l<9223372036854775808):Lib.parseIntB 64 (45::l)=.ok (-(lW 0 l:Int)):=by
 have hp:Lib.parseUintB 64 l=.ok (lW 0 l):=by
  rw [Lib.parseUintB,if_neg hne];exact nH _ _ hall aa
 have h45:(45:UInt8).toNat=45:=rfl;unfold Lib.parseIntB;simp only [h45,or_true,if_true,hp];rw [if_neg af,if_neg aR]
theorem UI:Sg X:=by
 intro f args v h;simp only [X] at h;split at h
 ·rename_i hf;obtain rfl:=Zo hf;unfold FY at h;split at h
  ·rename_i s a b;split at h
   ·rename_i hc;obtain ⟨rfl,rfl,hne,hall,hsz,hlt⟩:=hc;obtain rfl:=Option.some.inj h;refine ⟨rfl,rfl,⟨_,Go.Proofs.Tryz.func206,ag,ag⟩,fun w=>?_⟩
    have hp:Lib.parseUintB 64 s.data.toList=.ok (lW 0 s.data.toList):=by
     rw [Lib.parseUintB,if_neg hne];exact nH _ _ hall hlt
    have hsz2:s.size=s.data.toList.length:=by rw [Array.length_toList]; rfl
    have hmax:s.size≤9223372036854775806:=aa;refine (Go.Proofs.Any.strconv_ParseUint_10_at64_ok Go.Proofs.Tryz.laysPu14 s hmax _ hp w).mono ?_;rintro e w' ⟨rfl,rfl | rfl⟩
    ·exact ⟨rfl,Z7 _,fun _ _=>rfl,rfl,rfl⟩
    ·exact ⟨rfl,frz w _ s⟩
   ·cases h
  ·cases h
 ·split at h
  ·rename_i hf;obtain rfl:=Zo hf
   have key:∀ (s:ByteArray) (z:Int),s.data.toList.length≤1001→Lib.parseIntB 64 s.data.toList=.ok z→v=.tuple #[.int .i64 z,.nilIface]→args=[.string s,.int .i64 10,.int .i64 64] →
     iw args = true ∧ plain v = true ∧ (∃ fn, Go.Proofs.Tryz.prog.funcs[F.eA]? = some fn ∧ fn.body.isNone = false ∧ (fn.name == "runtime.NumGoroutine") = false) ∧
     ∀ w,Calls Go.Proofs.Tryz.prog F.eA args.toArray w fun e w'=>e=.returned v∧w.heap.size≤w'.heap.size∧(∀ c,c < w.heap.size→w'.heap[c]? = w.heap[c]?)∧w'.os=w.os∧w'.output=w.output:=by
    intro s z hl hp hv ha;subst hv; subst ha;refine ⟨rfl,rfl,⟨_,Go.Proofs.Tryz.func174,ag,ag⟩,fun w=>?_⟩;have hsz2:s.size=s.data.toList.length:=by rw [Array.length_toList]; rfl
    refine (Go.Proofs.Any.strconv_ParseInt_10_at64_ok Go.Proofs.Tryz.laysC174 s aa z hp w).mono ?_;rintro e w' ⟨rfl,rfl | ⟨t,rfl⟩⟩
    ·exact ⟨rfl,Z7 _,fun _ _=>rfl,rfl,rfl⟩
    ·exact ⟨rfl,frz w _ t⟩
   unfold JC at h;split at h
   ·rename_i s a b;split at h
    ·rename_i hab;obtain ⟨rfl,rfl⟩:=hab;split at h
     ·rename_i l hs;split at h
      ·rename_i hc;obtain ⟨hne,hall,hsz,hlt⟩:=hc;obtain rfl:=Option.some.inj h;exact key s _ (by rw [hs]; simp; omega) (by rw [hs]; exact Lb hne hall hlt) rfl rfl
      ·cases h
     ·rename_i l hs;split at h
      ·rename_i hc;obtain ⟨hne,hall,hsz,hlt⟩:=hc;obtain rfl:=Option.some.inj h;exact key s _ aa (Lc hne hall hlt) rfl rfl
      ·cases h
    ·cases h
   ·cases h
  ·cases h
end Go.Vm
