/- CheckerNumbers: for every input the law returns true, and leaves its arguments as they were; no condition. -/
import Derived.Test.YtbdajblfnkoagaaGreatDoorQJoin
import Derived.Test.YtbdajblfnkoagaaGreatDoorQLawNK
import Derived.Test.YtbdajblfnkoagaaGreatDoorQOpenX
import Derived.Deep.DeepHandedRow
import Derived.Lib.LaidTab
set_option linter.unusedVariables false
set_option linter.unusedSimpArgs false
namespace Go.Proofs.YtbdajblfnkoagaaGreatDoor.checkerNumbers
open Go Go.Am Go.Vm Go.ChangeShapes Go.WideShapes Go.ChangeAt Go.RowKit
theorem own:ownKnob Tryz.prog.godebug=none:=by kernel_rfl
theorem laidOut:laidOutB Tryz.prog=true:=by kernel_rfl
theorem gPow : Tryz.prog.globalNamed "internal/strconv.uint64pow10" = some powG := by kernel_rfl
theorem gPowType:(Tryz.prog.globals[powG]?).map (·.type)=some 245:=by kernel_rfl
theorem und245:Tryz.prog.underlying 245=some (.array 20 140):=by kernel_rfl
theorem und140:Tryz.prog.underlying 140=some (.int .u64):=by kernel_rfl
theorem cells140:Tryz.prog.cellsOf 140=1:=by kernel_rfl
theorem cells245:Tryz.prog.cellsOf 245=20:=by kernel_rfl
theorem cells3:Tryz.prog.cellsOf 3=1:=by kernel_rfl
theorem results:Tryz.f6.resultTypes = #[4]:=by kernel_rfl
theorem pow {W:World} (h:laidMetH Tryz.prog Rows.checkerNumbersRow.laid W):PowIn W :=
 pow_in gPow gPowType und245 und140 cells140 cells245 (l:=Rows.checkerNumbersRow.laid) (.tail _ (.tail _ (.head _))) h
theorem slice_only {P:Program} {W:World} {base:Nat} {t e:TypeId} {v:Value} (ht:P.underlying t=some (.slice e)) (h:Value.okWide P W .any base t v):∀ cs,v≠.agg cs:=by
 rintro cs rfl
 simp only [Value.okWide,ht,Cell.okWide,Cell.ok] at h
def shRow:Sh:=.sl (.int .i64)
def shRat:Sh:=.st [.str,.str]
theorem typ3:Typ Tryz.prog (.int .i64) 3:=⟨Tryz.underlying3,cells3⟩
theorem dat_rat (ds:List D) (h:Dat shRat ds):∃ a:Tx,ds=ratC a∧True:=by
 obtain ⟨a,b,rfl,⟨s,rfl,_⟩,b',c,rfl,⟨t,rfl,_⟩,rfl⟩:=h
 exact ⟨(s,t),rfl,trivial⟩
theorem cells51:Tryz.prog.cellsOf 51=2:=by kernel_rfl
theorem cells52:Tryz.prog.cellsOf 52=1:=by kernel_rfl
theorem cells54:Tryz.prog.cellsOf 54=1:=by kernel_rfl
theorem cells49:Tryz.prog.cellsOf 49=1:=by kernel_rfl
theorem typ49:Typ Tryz.prog .str 49:=⟨Tryz.underlying49,cells49⟩
theorem typ51:Typ Tryz.prog shRat 51:=⟨_,Tryz.underlying51,_,_,rfl,rfl,typ49,_,_,rfl,by rw [cells49],typ49,rfl,by rw [cells49,cells51]⟩
theorem typ52:Typ Tryz.prog shRow 52:=⟨3,Tryz.underlying52,cells52,by rw [cells3]; decide,typ3⟩
theorem typ54:Typ Tryz.prog (.sl shRat) 54:=⟨51,Tryz.underlying54,cells54,by rw [cells51]; decide,typ51⟩
set_option maxRecDepth 20000 in
theorem contract (H:Type) (enc:TypeId × Value→H) (W:World) (base:Nat) (args:Array Value) (ds gs:List (DataW H)) (before:List MemPlace)
  (hval:∀ (j:Nat) t v,Tryz.f6.params[j]? = some t→args[j]? = some v→Value.okWide Tryz.prog W .any base t v)
  (hW:DataW.Whole enc Tryz.prog Tryz.f6.params.toList Rows.checkerNumbersSpec.vars false W args.toList ds gs before) (hL:laidMetH Tryz.prog Rows.checkerNumbersRow.laid W) :
  Calls Tryz.prog 6 args W fun e W'=>∃ v,e=.returned v∧Rows.checkerNumbersSpec.post enc Tryz.prog Tryz.f6 false true false false W args v W':=by
 have hW':=hW
 obtain ⟨p,q,hA0,hV,rfl,hfz,hnd⟩:=hW
 have hA:DataW.TrodAll enc Tryz.prog W 0 (fun _=>true) true Tryz.f6.params.toList args.toList ds p:=hA0
 rw [Tryz.params6] at hA hval
 obtain ⟨v0,vs0,d0,ds0,p0,q0,hargs,rfl,rfl,h0,r0⟩:=trodAll_cons hA
 obtain ⟨v1,vs1,d1,ds1,p1,q1,rfl,rfl,rfl,h1,r1⟩:=trodAll_cons r0
 obtain ⟨v2,vs2,d2,ds2,p2,q2,rfl,rfl,rfl,h2,r2⟩:=trodAll_cons r1
 obtain ⟨rfl,rfl,rfl⟩:=trodAll_nil r2
 obtain rfl:args = #[v0,v1,v2]:=by cases args; simp_all
 obtain ⟨rfl,rfl⟩:=trodVars_none hV
 obtain ⟨f0,t0⟩:=h0
 obtain ⟨f1,t1⟩:=h1
 obtain ⟨f2,t2⟩:=h2
 obtain ⟨D0,e0,w0⟩:=wa_many typ51 t0 (struct_agg Tryz.underlying51 (hval 0 51 v0 (by simp) (by simp)))
 obtain ⟨D1,e1,w1⟩:=wa_one typ52 cells52 t1 (slice_only Tryz.underlying52 (hval 1 52 v1 (by simp) (by simp)))
 obtain ⟨D2,e2,w2⟩:=wa_one typ54 cells54 t2 (slice_only Tryz.underlying54 (hval 2 54 v2 (by simp) (by simp)))
 obtain ⟨a,rfl,_⟩:=dat_rat _ e0
 obtain ⟨x,rfl,_⟩:=dat_ints e1
 obtain ⟨s,rfl,_⟩:=dat_list (f:=ratC) (fun _=>True) dat_rat e2
 have hc:=calls_of_CPA (rs:=[.many [.str a.1,.str a.2],.one (.sl x.length (x.map di)),.one (.sl s.length (s.flatMap ratC))]) (vs:=[v0,v1,v2]) (w:=W) (law_numbers a.1 a.2 x s) ⟨_,_,rfl,w0,_,_,rfl,w1,_,_,rfl,w2,rfl⟩ (pow hL)
 refine hc.mono fun e W' ⟨he,hk⟩=>?_
 subst he
 have hlt:=hW'.lt
 have hargs':∀ sp:Nat→Bool,(∀ x ∈ (p0++(p1++(p2++[])))++[],sp x.block=true)→DataW.TrodAll enc Tryz.prog W' 0 sp true Tryz.f6.params.toList [v0,v1,v2] [d0,d1,d2] (p0++(p1++(p2++[]))):=fun sp hsp =>
  trodAll_kept laidOut hk (by rw [Tryz.params6]; intro t ht; simp only [List.mem_cons,List.not_mem_nil,or_false] at ht; rcases ht with rfl | rfl | rfl <;> exact ⟨by kernel_rfl,of_decide_eq_true (by kernel_rfl)⟩) hA0 (fun x hx=>hlt x (by simpa using hx)) (fun x hx=>hsp x (by simpa using hx))
 exact ⟨_,rfl,post_kept (pa:=p0++(p1++(p2++[]))) (pv:=[]) hW' (fun _ _ _=>by rw [results]; exact trodAll_cons_mk (shut_bool Tryz.underlying4 _) trodAll_mk0) hargs' (fun _ _=>rfl) rfl hk (ok_one results rfl (okWide_bool_mk Tryz.underlying4 _))⟩
def litV:DataW Unit→Value
 | .lit (.int k n)=>.int k n
 | _=>undef
def tabV:DataW Unit→Array Value
 | .agg l=>(l.map litV).toArray
 | _=>#[]
def errV:DataW Unit→Value
 | .iface _ (.ptr (.agg [.lit (.string l)]))=>.string ⟨l.toArray⟩
 | _=>undef
def setB (cs:Array Value):Obj→Obj
 | .cells _ t frozen=>.cells cs t frozen
 | o=>o
noncomputable def laidWorld (os:Os):World :=
 let w0:=World.holding Tryz.prog os ⟨#[.cells #[errV Rows.laid_strconv_ErrSyntax] 251,.cells #[errV Rows.laid_strconv_ErrRange] 251],#[],[]⟩
 let low:=(World.settled Tryz.prog os).heap.size
 { w0 with heap:=((((w0.heap.modify 0 (setB #[.iface 249 (.pointer (some ⟨low,0,none⟩))])).modify 1 (setB #[.iface 249 (.pointer (some ⟨low+1,0,none⟩))])).modify 2 (setB (tabV Rows.laid_internal_strconv_uint64pow10))).modify 4 (setB (tabV Rows.laid_math_bits_deBruijn32tab))).modify 5 (setB (tabV Rows.laid_math_bits_deBruijn64tab)) }
abbrev noArgs:Array Value:=#[.agg #[.string ⟨#[]⟩,.string ⟨#[]⟩],.slice none 0 0,.slice none 0 0]
theorem laid_met (os:Os):laidMet Tryz.prog Rows.checkerNumbersRow.laid ((laidWorld os).forCall (fun _ _=>0) ⟨#[],noArgs,[]⟩).memory :=
 laidMet_of_run' 8 (by kernel_rfl) (by kernel_rfl)
theorem reads (os:Os) {H:Type} (enc:TypeId × Value→H):∃ places,DataW.whole enc Tryz.prog ((laidWorld os).forCall (fun _ _=>0) ⟨#[],noArgs,[]⟩).memory Tryz.f6.params.toList Rows.checkerNumbersSpec.vars false noArgs.toList 8=some ([.agg [.lit (.string []),.lit (.string [])],.nil,.nil],[],places) :=
 ⟨[],by kernel_rfl⟩
set_option maxRecDepth 100000 in
theorem lifted (os:Os) (started:os.Started) (H:Type) (enc:TypeId × Value→H) (F:Stop.Interp) :
  ReturnsInHanded {} Tryz.checked os 6 .any ((OpenSpec.ofChange Rows.checkerNumbersSpec).preRow enc Tryz.prog Tryz.f6 Rows.checkerNumbersRow.domain false Rows.checkerNumbersRow.laid) (((OpenSpec.ofChange Rows.checkerNumbersSpec).at F).post enc Tryz.prog Tryz.f6 false true false false):=by
 obtain ⟨places,hx⟩:=reads os enc
 refine returnsInHanded_of_row (C:=Tryz.checked) (s:=OpenSpec.ofChange Rows.checkerNumbersSpec) own started (by kernel_rfl) Tryz.func6
  (witness_row_at (enc:=enc) (C:=Tryz.checked) false (laidWorld os) noArgs rfl (by kernel_rfl) (by kernel_rfl) (by kernel_rfl)
   (OpenSpec.preRow_of_cond 8 hx (by kernel_rfl) (fun k hk=>by cases hk) (by kernel_rfl) (laid_met os))) ?_
 intro W base args ds gs before hval hW _ _ _ hL _ _
 exact contract H enc W base args ds gs before hval hW hL
theorem said:Rows.CheckerNumbersSaid :=
 OpenClaim.holds_of_cond 6 Tryz.f6 rfl rfl rfl rfl rfl rfl rfl ⟨rfl,rfl,rfl,rfl,rfl⟩ rfl rfl rfl rfl rfl (by kernel_rfl) Tryz.func6 (by kernel_rfl)
  (of_decide_eq_true (by kernel_rfl)) (by unfold Func.isWrapper; first | (rw [if_pos (by decide +kernel)]; kernel_rfl) | (rw [if_neg (by decide +kernel)]; exact ⟨rfl,rfl⟩))
  (fun os started H enc _ F=>by rw [OpenClaim.pre_eq_preRow]; exact lifted os started H enc F)
theorem plain (f : FuncId) (fn : Func) (hf : Tryz.pinned.checked.prog.funcNamed "schisma/schismalaw55.CheckerNumbers" = some f) (hfn : Tryz.pinned.checked.prog.funcs[f]? = some fn) :
  true=Tryz.pinned.checked.prog.looks []∧∀ (j:Nat) t,fn.params[j]? = some t→Tryz.pinned.checked.prog.wantsStandIn t=false:=by
 obtain rfl : f = 6 := Option.some.inj ((show Tryz.prog.funcNamed "schisma/schismalaw55.CheckerNumbers" = some 6 by kernel_rfl).symm.trans hf) |>.symm
 obtain rfl:fn=Tryz.f6:=(Option.some.inj (Tryz.func6.symm.trans hfn)).symm
 refine ⟨by kernel_rfl,fun j t ht=>?_⟩
 rw [Tryz.params6] at ht
 have hm:t ∈ [51,52,54]:=by simpa using Array.mem_of_getElem? ht
 simp only [List.mem_cons,List.not_mem_nil,or_false] at hm
 rcases hm with rfl | rfl | rfl
 ·exact (show Tryz.prog.wantsStandIn 51=false by kernel_rfl)
 ·exact (show Tryz.prog.wantsStandIn 52=false by kernel_rfl)
 ·exact (show Tryz.prog.wantsStandIn 54=false by kernel_rfl)
theorem card:Rows.CheckerNumbersCardSaid :=
 Claim7.holds_tied_plain_at .later [] _ _ _ _ said (fun _ h=>by cases h) (by kernel_rfl) (fun _ h=>by cases h) checkerNumbers_row_tie rfl ⟨rfl,rfl⟩ (by kernel_rfl) rfl plain (by kernel_rfl)
end Go.Proofs.YtbdajblfnkoagaaGreatDoor.checkerNumbers
