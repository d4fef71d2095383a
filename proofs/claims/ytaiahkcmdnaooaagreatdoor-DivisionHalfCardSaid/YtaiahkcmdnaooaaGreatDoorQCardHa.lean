/- DivisionHalf: for every input the law returns true, and leaves its arguments as they were; no condition. -/
import Derived.Test.YtaiahkcmdnaooaaGreatDoorQDat
import Derived.Test.YtaiahkcmdnaooaaGreatDoorQHaA
set_option linter.unusedVariables false
set_option linter.unusedSimpArgs false
namespace Go.Proofs.YtaiahkcmdnaooaaGreatDoor.divisionHalf
open Go Go.Am Go.Vm Go.ChangeShapes Go.WideShapes Go.ChangeAt Go.RowKit
theorem own:ownKnob Tryz.prog.godebug=none:=ag
theorem laidOut:laidOutB Tryz.prog=true:=ag
theorem results:Tryz.f8.resultTypes = #[4]:=ag
theorem pow {W:World} (h:laidMetH Tryz.prog Rows.divisionHalfRow.laid W):Ja W:=
 Pp YT Il NW NX IU IT (l:=Rows.divisionHalfRow.laid) (.tail _ (.tail _ (.head _))) h
theorem NY:Typ Tryz.prog (E6) 61:=vk ag
theorem WR:Typ Tryz.prog (.int .u16) 44:=vk ag
theorem Tr:Tryz.prog.cellsOf 44=1:=ag
set_option maxRecDepth 20000 in
theorem Cb (H:Type) (enc:TypeId × Value->H) (W:World) (base:Nat) (args:Array Value) (ds gs:List (DataW H)) (before:List MemPlace)
  (hval:∀ (j:Nat) t v,Tryz.f8.params[j]? = some t->args[j]? = some v->Value.okWide Tryz.prog W .any base t v)
  (hW:DataW.Whole enc Tryz.prog Tryz.f8.params.toList Rows.divisionHalfSpec.vars false W args.toList ds gs before) (hL:laidMetH Tryz.prog Rows.divisionHalfRow.laid W) :
  Calls Tryz.prog 8 args W fun e W'=>∃ v,e=.returned v∧Rows.divisionHalfSpec.post enc Tryz.prog Tryz.f8 false true false false W args v W':=by
 have hW':=hW;obtain ⟨p,q,hA0,hV,rfl,hfz,hnd⟩:=hW;have hA:DataW.TrodAll enc Tryz.prog W 0 (fun _=>true) true Tryz.f8.params.toList args.toList ds p:=hA0;rw [Tryz.params8] at hA hval;obtain ⟨v0,vs0,d0,ds0,p0,q0,hargs,rfl,rfl,h0,r0⟩:=trodAll_cons hA;obtain ⟨v1,vs1,d1,ds1,p1,q1,rfl,rfl,rfl,h1,r1⟩:=trodAll_cons r0;obtain ⟨rfl,rfl,rfl⟩:=trodAll_nil r1;obtain rfl:args = #[v0,v1]:=by cases args;simp_all
 obtain ⟨rfl,rfl⟩:=trodVars_none hV;obtain ⟨f0,t0⟩:=h0;obtain ⟨f1,t1⟩:=h1;obtain ⟨D0,e0,w0⟩:=KG NY t0 (AL Tryz.underlying61 (hval 0 61 v0 af af));obtain ⟨D1,e1,w1⟩:=NP WR Tr t1 (Qj Tryz.underlying44 (hval 1 44 v1 af af));obtain ⟨k,e,rfl,hk,hb⟩:=Ej e0;obtain ⟨m,hm,rfl⟩:=Tg e1
 have hc:=xj (rs:=[.many [.int .u8 k,.sl e.length (e.flatMap i4D)],.one (.int .u16 m)]) (vs:=[v0,v1]) (w:=W) (P9 hk hm hb) ⟨_,_,rfl,w0,_,_,rfl,w1,rfl⟩ (pow hL);refine hc.mono fun e W' ⟨he,hk⟩=>?_
 subst he;have hlt:=hW'.lt
 have hargs':∀ sp:Nat->Bool,(∀ x∈(p0++(p1++[]))++[],sp x.block=true)->DataW.TrodAll enc Tryz.prog W' 0 sp true Tryz.f8.params.toList [v0,v1] [d0,d1] (p0++(p1++[])):=fun sp hsp=>
  rD laidOut hk (by rw [Tryz.params8];intro t ht;simp only [Zr,Zc,or_false] at ht;rcases ht with rfl | rfl <;> exact ⟨ag,of_decide_eq_true ag⟩) hA0 (fun x hx=>hlt x (by simpa using hx)) (fun x hx=>hsp x (by simpa using hx))
 exact ⟨_,rfl,DR (pa:=p0++(p1++[])) (pv:=[]) hW' (fun _ _ _=>by rw [results];exact trodAll_cons_mk (shut_bool Tryz.underlying4 _) trodAll_mk0) hargs' (fun _ _=>rfl) rfl hk (ok_one results rfl (okWide_bool_mk Tryz.underlying4 _))⟩
abbrev rS:Array Value:=#[.agg #[.int .u8 0,.slice none 0 0],.int .u16 0]
theorem BD (os:Os):laidMet Tryz.prog Rows.divisionHalfRow.laid ((pd os).forCall (fun _ _=>0) ⟨#[],rS,[]⟩).memory:=
 laidMet_of_run' 8 ag ag
theorem reads (os:Os) {H:Type} (enc:TypeId × Value->H):∃ places,DataW.whole enc Tryz.prog ((pd os).forCall (fun _ _=>0) ⟨#[],rS,[]⟩).memory Tryz.f8.params.toList Rows.divisionHalfSpec.vars false rS.toList 8=some ([.agg [.lit (.int .u8 0),.nil],.lit (.int .u16 0)],[],places):=
 ⟨[],ag⟩
set_option maxRecDepth 100000 in
theorem lifted (os:Os) (started:os.Started) (H:Type) (enc:TypeId × Value->H) (F:Stop.Interp) :
  ReturnsInHanded {} Tryz.checked os 8 .any ((OpenSpec.ofChange Rows.divisionHalfSpec).preRow enc Tryz.prog Tryz.f8 Rows.divisionHalfRow.domain false Rows.divisionHalfRow.laid) (((OpenSpec.ofChange Rows.divisionHalfSpec).at F).post enc Tryz.prog Tryz.f8 false true false false):=by
 obtain ⟨places,hx⟩:=reads os enc
 refine returnsInHanded_of_row (C:=Tryz.checked) (s:=OpenSpec.ofChange Rows.divisionHalfSpec) own started ag Tryz.func8
  (witness_row_at (enc:=enc) (C:=Tryz.checked) false (pd os) rS rfl ag ag ag
   (OpenSpec.preRow_of_cond 8 hx ag (fun k hk=>by cases hk) ag (BD os))) ?_
 intro W base args ds gs before hval hW _ _ _ hL _ _;exact Cb H enc W base args ds gs before hval hW hL
theorem said:Rows.DivisionHalfSaid:=
 OpenClaim.holds_of_cond 8 Tryz.f8 rfl rfl rfl rfl rfl rfl rfl ⟨rfl,rfl,rfl,rfl,rfl⟩ rfl rfl rfl rfl rfl ag Tryz.func8 ag
  (of_decide_eq_true ag) (by unfold Func.isWrapper;first | (rw [if_pos aJ];kernel_rfl) | (rw [if_neg aJ];exact ⟨rfl,rfl⟩))
  (fun os started H enc _ F=>by rw [OpenClaim.pre_eq_preRow];exact lifted os started H enc F)
theorem plain (f : FuncId) (fn : Func) (hf : Tryz.pinned.checked.prog.funcNamed "schisma/schismalaw30.DivisionHalf" = some f) (hfn : Tryz.pinned.checked.prog.funcs[f]? = some fn) :
  true=Tryz.pinned.checked.prog.looks []∧∀ (j:Nat) t,fn.params[j]? = some t→Tryz.pinned.checked.prog.wantsStandIn t=false:=by
 obtain rfl : f = 8 := Option.some.inj ((show Tryz.prog.funcNamed "schisma/schismalaw30.DivisionHalf" = some 8 by kernel_rfl).symm.trans hf) |>.symm
 obtain rfl:fn=Tryz.f8:=(Option.some.inj (Tryz.func8.symm.trans hfn)).symm;refine ⟨ag,fun j t ht=>?_⟩;rw [Tryz.params8] at ht;have hm:t ∈ [61,44]:=by simpa using Array.mem_of_getElem? ht
 simp only [Zr,Zc,or_false] at hm;rcases hm with rfl | rfl
 ·exact (show Tryz.prog.wantsStandIn 61=false by kernel_rfl)
 ·exact (show Tryz.prog.wantsStandIn 44=false by kernel_rfl)
theorem card:Rows.DivisionHalfCardSaid:=
 Claim7.holds_tied_plain_at .later [] _ _ _ _ said (fun _ h=>by cases h) ag (fun _ h=>by cases h) divisionHalf_row_tie rfl ⟨rfl,rfl⟩ ag rfl plain ag
end Go.Proofs.YtaiahkcmdnaooaaGreatDoor.divisionHalf
