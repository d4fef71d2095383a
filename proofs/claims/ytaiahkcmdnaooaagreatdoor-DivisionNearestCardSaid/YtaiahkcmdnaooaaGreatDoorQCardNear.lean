/- DivisionNearest: for every input the law returns true, and leaves its arguments as they were; no condition. -/
import Derived.Test.YtaiahkcmdnaooaaGreatDoorQJoin
import Derived.Test.YtaiahkcmdnaooaaGreatDoorQLdY
import Derived.Deep.DeepHandedRow
import Derived.Lib.LaidTab
set_option linter.unusedVariables false
set_option linter.unusedSimpArgs false
namespace Go.Proofs.YtaiahkcmdnaooaaGreatDoor.divisionNearest
open Go Go.Am Go.Vm Go.ChangeShapes Go.WideShapes Go.ChangeAt Go.RowKit
theorem own:ownKnob Tryz.prog.godebug=none:=by kernel_rfl
theorem laidOut:laidOutB Tryz.prog=true:=by kernel_rfl
theorem U8 : Tryz.prog.globalNamed "internal/strconv.uint64pow10" = some jQ := by kernel_rfl
theorem Mh:(Tryz.prog.globals[jQ]?).map (·.type)=some 255:=by kernel_rfl
theorem P4:Tryz.prog.underlying 255=some (.array 20 199):=by kernel_rfl
theorem P5:Tryz.prog.underlying 199=some (.int .u64):=by kernel_rfl
theorem M3:Tryz.prog.cellsOf 199=1:=by kernel_rfl
theorem M2:Tryz.prog.cellsOf 255=20:=by kernel_rfl
theorem cells3:Tryz.prog.cellsOf 3=1:=by kernel_rfl
theorem results:Tryz.f4.resultTypes = #[4]:=by kernel_rfl
theorem pow {W:World} (h:laidMetH Tryz.prog Rows.divisionNearestRow.laid W):IU W:=
 Qn U8 Mh P4 P5 M3 M2 (l:=Rows.divisionNearestRow.laid) (.tail _ (.tail _ (.head _))) h
theorem EW {P:Program} {W:World} {base:Nat} {t:TypeId} {k:IntKind} {v:Value} (ht:P.underlying t=some (.int k)) (h:Value.okWide P W .any base t v):∀ cs,v≠.agg cs:=by
 rintro cs rfl;simp only [Value.okWide,ht,Cell.okWide,Cell.ok] at h
theorem Qg {P:Program} {W:World} {base:Nat} {t e:TypeId} {v:Value} (ht:P.underlying t=some (.slice e)) (h:Value.okWide P W .any base t v):∀ cs,v≠.agg cs:=by
 rintro cs rfl;simp only [Value.okWide,ht,Cell.okWide,Cell.ok] at h
def BU:Sh:=.st [.int .i8,.int .u8]
theorem cells5:Tryz.prog.cellsOf 5=1:=by kernel_rfl
theorem CH:Tryz.prog.cellsOf 22=1:=by kernel_rfl
theorem IE:Tryz.prog.cellsOf 41=2:=by kernel_rfl
theorem OZ:Tryz.prog.cellsOf 43=8:=by kernel_rfl
theorem ID:Tryz.prog.cellsOf 44=1:=by kernel_rfl
theorem RZ:Typ Tryz.prog (.int .u8) 5:=⟨Tryz.underlying5,cells5⟩
theorem R5:Typ Tryz.prog (.int .i8) 22:=⟨Tryz.underlying22,CH⟩
theorem R2:Typ Tryz.prog (.int .u16) 44:=⟨Tryz.underlying44,ID⟩
theorem R4:Typ Tryz.prog BU 41:=⟨_,Tryz.underlying41,_,_,rfl,rfl,R5,_,_,rfl,by rw [CH],RZ,rfl,by rw [CH,cells5,IE]⟩
theorem R3:Typ Tryz.prog (.ar 4 BU) 43:=⟨41,Tryz.underlying43,by rw [IE,OZ],R4⟩
theorem wf_u8 {n:Int} (h:(Lit.int .u8 n).wf=true):0<=n∧n<=255:=by
 simp only [Lit.wf,Z8,decide_eq_true_eq] at h;exact h
theorem wf_u16 {n:Int} (h:(Lit.int .u16 n).wf=true):0<=n∧n<=65535:=by
 simp only [Lit.wf,Z8,decide_eq_true_eq] at h;exact h
theorem wf_i8 {n:Int} (h:(Lit.int .i8 n).wf=true) : -128<=n∧n<=127:=by
 simp only [Lit.wf,Z8,decide_eq_true_eq] at h;exact h
theorem Q8 {d:D} (h:Dat (.int .u8) [d]):∃ k:Nat,k<256∧d=.int .u8 k:=by
 obtain ⟨n,e,hw⟩:=h;simp only [List.cons.injEq,and_true] at e;have hb:=wf_u8 hw;exact ⟨n.toNat,by omega,by rw [e,Wl hb.1]⟩
theorem OP {d:D} (h:Dat (.int .u16) [d]):∃ k:Nat,k<65536∧d=.int .u16 k:=by
 obtain ⟨n,e,hw⟩:=h;simp only [List.cons.injEq,and_true] at e;have hb:=wf_u16 hw;exact ⟨n.toNat,by omega,by rw [e,Wl hb.1]⟩
def ptD (x:Int × Nat):List D:=[.int .i8 x.1,.int .u8 x.2]
theorem uD {ds:List D} (h:Dat BU ds):∃ x:Int × Nat,ds=ptD x∧(-128<=x.1∧x.1<=127)∧x.2<256:=by
 obtain ⟨a,b,rfl,⟨n,rfl,hn⟩,a',b',rfl,h2,rfl⟩:=h;obtain ⟨m,rfl,hm⟩:=h2;have b1:=wf_i8 hn;have b2:=wf_u8 hm;exact ⟨(n,m.toNat),by simp [ptD,Wl b2.1],b1,by simp only;omega⟩
theorem J6 {ds:List D} (h:Dat (.ar 4 BU) ds):∃ e:List (Int × Nat),e.length=4∧ds=e.flatMap ptD∧∀ x∈e,(-128<=x.1∧x.1<=127)∧x.2<256:=by
 obtain ⟨xs,rfl,hl,hx⟩:=h
 match xs,hl,hx with
 | [x1,x2,x3,x4],_,hx=>
  obtain ⟨a,rfl,ha⟩:=uD (hx x1 (by simp));obtain ⟨b,rfl,hb⟩:=uD (hx x2 (by simp));obtain ⟨c,rfl,hc⟩:=uD (hx x3 (by simp));obtain ⟨d,rfl,hd⟩:=uD (hx x4 (by simp));refine ⟨[a,b,c,d],rfl,by simp,fun x hm=>?_⟩;simp only [Zt,Zb,or_false] at hm;rcases hm with rfl | rfl | rfl | rfl <;> assumption
theorem PF:∀ e:List (Int × Nat),(e.flatMap ptD).map V.d=yk e
 | []=>rfl
 | x::e=>by
  have:=PF e;simp only [Yn,W5,this,yk];rfl
set_option maxRecDepth 20000 in
theorem MR (H:Type) (enc:TypeId × Value->H) (W:World) (base:Nat) (args:Array Value) (ds gs:List (DataW H)) (before:List MemPlace)
  (hval:∀ (j:Nat) t v,Tryz.f4.params[j]? = some t->args[j]? = some v->Value.okWide Tryz.prog W .any base t v)
  (hW:DataW.Whole enc Tryz.prog Tryz.f4.params.toList Rows.divisionNearestSpec.vars false W args.toList ds gs before) (hL:laidMetH Tryz.prog Rows.divisionNearestRow.laid W) :
  Calls Tryz.prog 4 args W fun e W'=>∃ v,e=.returned v∧Rows.divisionNearestSpec.post enc Tryz.prog Tryz.f4 false true false false W args v W':=by
 have hW':=hW;obtain ⟨p,q,hA0,hV,rfl,hfz,hnd⟩:=hW;have hA:DataW.TrodAll enc Tryz.prog W 0 (fun _=>true) true Tryz.f4.params.toList args.toList ds p:=hA0;rw [Tryz.params4] at hA hval;obtain ⟨v0,vs0,d0,ds0,p0,q0,hargs,rfl,rfl,h0,r0⟩:=trodAll_cons hA;obtain ⟨v1,vs1,d1,ds1,p1,q1,rfl,rfl,rfl,h1,r1⟩:=trodAll_cons r0;obtain ⟨v2,vs2,d2,ds2,p2,q2,rfl,rfl,rfl,h2,r2⟩:=trodAll_cons r1
 obtain ⟨rfl,rfl,rfl⟩:=trodAll_nil r2;obtain rfl:args = #[v0,v1,v2]:=by cases args;simp_all
 obtain ⟨rfl,rfl⟩:=trodVars_none hV;obtain ⟨f0,t0⟩:=h0;obtain ⟨f1,t1⟩:=h1;obtain ⟨f2,t2⟩:=h2;obtain ⟨D0,e0,w0⟩:=Kn RZ cells5 t0 (EW Tryz.underlying5 (hval 0 5 v0 (by simp) (by simp)));obtain ⟨D1,e1,w1⟩:=Ny R3 t1 (Kj Tryz.underlying43 (hval 1 43 v1 (by simp) (by simp)))
 obtain ⟨D2,e2,w2⟩:=Kn R2 ID t2 (EW Tryz.underlying44 (hval 2 44 v2 (by simp) (by simp)));obtain ⟨k,hk,rfl⟩:=Q8 e0;obtain ⟨e,he,rfl,hb⟩:=J6 e1;obtain ⟨m,hm,rfl⟩:=OP e2;have lw:=ER hk hm he hb;rw [<- PF e] at lw
 have hc:=CJ (rs:=[.one (.int .u8 k),.many (e.flatMap ptD),.one (.int .u16 m)]) (vs:=[v0,v1,v2]) (w:=W) lw ⟨_,_,rfl,w0,_,_,rfl,w1,_,_,rfl,w2,rfl⟩ (pow hL);refine hc.mono fun e W' ⟨he,hk⟩=>?_
 subst he;have hlt:=hW'.lt
 have hargs':∀ sp:Nat->Bool,(∀ x∈(p0++(p1++(p2++[])))++[],sp x.block=true)->DataW.TrodAll enc Tryz.prog W' 0 sp true Tryz.f4.params.toList [v0,v1,v2] [d0,d1,d2] (p0++(p1++(p2++[]))):=fun sp hsp=>
  tz laidOut hk (by rw [Tryz.params4];intro t ht;simp only [Zt,Zb,or_false] at ht;rcases ht with rfl | rfl | rfl <;> exact ⟨by kernel_rfl,of_decide_eq_true (by kernel_rfl)⟩) hA0 (fun x hx=>hlt x (by simpa using hx)) (fun x hx=>hsp x (by simpa using hx))
 exact ⟨_,rfl,Js (pa:=p0++(p1++(p2++[]))) (pv:=[]) hW' (fun _ _ _=>by rw [results];exact trodAll_cons_mk (shut_bool Tryz.underlying4 _) trodAll_mk0) hargs' (fun _ _=>rfl) rfl hk (ok_one results rfl (okWide_bool_mk Tryz.underlying4 _))⟩
def UZ:DataW Unit->Value
 | .lit (.int k n)=>.int k n
 | _=>undef
def P9:DataW Unit->Array Value
 | .agg l=>(l.map UZ).toArray
 | _=>#[]
def S7:DataW Unit->Value
 | .iface _ (.ptr (.agg [.lit (.string l)]))=>.string ⟨l.toArray⟩
 | _=>undef
def KT (cs:Array Value):Obj->Obj
 | .cells _ t frozen=>.cells cs t frozen
 | o=>o
noncomputable def vp (os:Os):World:=
 let w0:=World.holding Tryz.prog os ⟨#[.cells #[S7 Rows.laid_strconv_ErrSyntax] 266,.cells #[S7 Rows.laid_strconv_ErrRange] 266],#[],[]⟩
 let low:=(World.settled Tryz.prog os).heap.size
 { w0 with heap:=((((w0.heap.modify 1 (KT #[.iface 264 (.pointer (some ⟨low,0,none⟩))])).modify 2 (KT #[.iface 264 (.pointer (some ⟨low+1,0,none⟩))])).modify 0 (KT (P9 Rows.laid_internal_strconv_uint64pow10))).modify 3 (KT (P9 Rows.laid_math_bits_deBruijn32tab))).modify 4 (KT (P9 Rows.laid_math_bits_deBruijn64tab)) }
abbrev B9:Array Value:=#[.int .u8 0,.agg #[.int .i8 0,.int .u8 0,.int .i8 0,.int .u8 0,.int .i8 0,.int .u8 0,.int .i8 0,.int .u8 0],.int .u16 0]
theorem L4 (os:Os):laidMet Tryz.prog Rows.divisionNearestRow.laid ((vp os).forCall (fun _ _=>0) ⟨#[],B9,[]⟩).memory:=
 laidMet_of_run' 8 (by kernel_rfl) (by kernel_rfl)
theorem reads (os:Os) {H:Type} (enc:TypeId × Value->H):∃ places,DataW.whole enc Tryz.prog ((vp os).forCall (fun _ _=>0) ⟨#[],B9,[]⟩).memory Tryz.f4.params.toList Rows.divisionNearestSpec.vars false B9.toList 8=some ([.lit (.int .u8 0),.agg [.agg [.lit (.int .i8 0),.lit (.int .u8 0)],.agg [.lit (.int .i8 0),.lit (.int .u8 0)],.agg [.lit (.int .i8 0),.lit (.int .u8 0)],.agg [.lit (.int .i8 0),.lit (.int .u8 0)]],.lit (.int .u16 0)],[],places):=
 ⟨[],by kernel_rfl⟩
set_option maxRecDepth 100000 in
theorem lifted (os:Os) (started:os.Started) (H:Type) (enc:TypeId × Value->H) (F:Stop.Interp) :
  ReturnsInHanded {} Tryz.checked os 4 .any ((OpenSpec.ofChange Rows.divisionNearestSpec).preRow enc Tryz.prog Tryz.f4 Rows.divisionNearestRow.domain false Rows.divisionNearestRow.laid) (((OpenSpec.ofChange Rows.divisionNearestSpec).at F).post enc Tryz.prog Tryz.f4 false true false false):=by
 obtain ⟨places,hx⟩:=reads os enc
 refine returnsInHanded_of_row (C:=Tryz.checked) (s:=OpenSpec.ofChange Rows.divisionNearestSpec) own started (by kernel_rfl) Tryz.func4
  (witness_row_at (enc:=enc) (C:=Tryz.checked) false (vp os) B9 rfl (by kernel_rfl) (by kernel_rfl) (by kernel_rfl)
   (OpenSpec.preRow_of_cond 8 hx (by kernel_rfl) (fun k hk=>by cases hk) (by kernel_rfl) (L4 os))) ?_
 intro W base args ds gs before hval hW _ _ _ hL _ _;exact MR H enc W base args ds gs before hval hW hL
theorem said:Rows.DivisionNearestSaid:=
 OpenClaim.holds_of_cond 4 Tryz.f4 rfl rfl rfl rfl rfl rfl rfl ⟨rfl,rfl,rfl,rfl,rfl⟩ rfl rfl rfl rfl rfl (by kernel_rfl) Tryz.func4 (by kernel_rfl)
  (of_decide_eq_true (by kernel_rfl)) (by unfold Func.isWrapper;first | (rw [if_pos (by decide +kernel)];kernel_rfl) | (rw [if_neg (by decide +kernel)];exact ⟨rfl,rfl⟩))
  (fun os started H enc _ F=>by rw [OpenClaim.pre_eq_preRow];exact lifted os started H enc F)
theorem plain (f : FuncId) (fn : Func) (hf : Tryz.pinned.checked.prog.funcNamed "schisma/schismalaw30.DivisionNearest" = some f) (hfn : Tryz.pinned.checked.prog.funcs[f]? = some fn) :
  true=Tryz.pinned.checked.prog.looks []∧∀ (j:Nat) t,fn.params[j]? = some t→Tryz.pinned.checked.prog.wantsStandIn t=false:=by
 obtain rfl : f = 4 := Option.some.inj ((show Tryz.prog.funcNamed "schisma/schismalaw30.DivisionNearest" = some 4 by kernel_rfl).symm.trans hf) |>.symm
 obtain rfl:fn=Tryz.f4:=(Option.some.inj (Tryz.func4.symm.trans hfn)).symm;refine ⟨by kernel_rfl,fun j t ht=>?_⟩;rw [Tryz.params4] at ht;have hm:t ∈ [5,43,44]:=by simpa using Array.mem_of_getElem? ht
 simp only [Zt,Zb,or_false] at hm;rcases hm with rfl | rfl | rfl
 ·exact (show Tryz.prog.wantsStandIn 5=false by kernel_rfl)
 ·exact (show Tryz.prog.wantsStandIn 43=false by kernel_rfl)
 ·exact (show Tryz.prog.wantsStandIn 44=false by kernel_rfl)
theorem card:Rows.DivisionNearestCardSaid:=
 Claim7.holds_tied_plain_at .later [] _ _ _ _ said (fun _ h=>by cases h) (by kernel_rfl) (fun _ h=>by cases h) divisionNearest_row_tie rfl ⟨rfl,rfl⟩ (by kernel_rfl) rfl plain (by kernel_rfl)
end Go.Proofs.YtaiahkcmdnaooaaGreatDoor.divisionNearest
