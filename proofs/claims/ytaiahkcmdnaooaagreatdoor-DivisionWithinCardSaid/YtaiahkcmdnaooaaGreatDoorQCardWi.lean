/- DivisionWithin: for every input the law returns true, and leaves its arguments as they were; no condition. -/
import Derived.Test.YtaiahkcmdnaooaaGreatDoorQBsD
import Derived.Test.YtaiahkcmdnaooaaGreatDoorQDat
set_option linter.unusedVariables false
set_option linter.unusedSimpArgs false
namespace Go.Proofs.YtaiahkcmdnaooaaGreatDoor.divisionWithin
open Go Go.Am Go.Vm Go.ChangeShapes Go.WideShapes Go.ChangeAt Go.RowKit
theorem own:ownKnob Tryz.prog.godebug=none:=af
theorem laidOut:laidOutB Tryz.prog=true:=af
theorem results:Tryz.f5.resultTypes = #[4]:=af
theorem pow {W:World} (h:laidMetH Tryz.prog Rows.divisionWithinRow.laid W):DN W:=
 GG Uh xX F6 F7 yA yz (l:=Rows.divisionWithinRow.laid) (.tail _ (.tail _ (.head _))) h
theorem BP:Typ Tryz.prog (xm) 61:=qu af
theorem ZE:Typ Tryz.prog (PY) 63:=qu af
set_option maxRecDepth 20000 in
theorem qP (H:Type) (enc:TypeId × Value->H) (W:World) (base:Nat) (args:Array Value) (ds gs:List (DataW H)) (before:List MemPlace)
  (hval:∀ (j:Nat) t v,Tryz.f5.params[j]? = some t->args[j]? = some v->Value.okWide Tryz.prog W .any base t v)
  (hW:DataW.Whole enc Tryz.prog Tryz.f5.params.toList Rows.divisionWithinSpec.vars false W args.toList ds gs before) (hL:laidMetH Tryz.prog Rows.divisionWithinRow.laid W) :
  Calls Tryz.prog 5 args W fun e W'=>∃ v,e=.returned v∧Rows.divisionWithinSpec.post enc Tryz.prog Tryz.f5 false true false false W args v W':=by
 have hW':=hW;obtain ⟨p,q,hA0,hV,rfl,hfz,hnd⟩:=hW;have hA:DataW.TrodAll enc Tryz.prog W 0 (fun _=>true) true Tryz.f5.params.toList args.toList ds p:=hA0;rw [Tryz.params5] at hA hval;obtain ⟨v0,vs0,d0,ds0,p0,q0,hargs,rfl,rfl,h0,r0⟩:=trodAll_cons hA;obtain ⟨v1,vs1,d1,ds1,p1,q1,rfl,rfl,rfl,h1,r1⟩:=trodAll_cons r0;obtain ⟨rfl,rfl,rfl⟩:=trodAll_nil r1;obtain rfl:args = #[v0,v1]:=by cases args;simp_all
 obtain ⟨rfl,rfl⟩:=trodVars_none hV;obtain ⟨f0,t0⟩:=h0;obtain ⟨f1,t1⟩:=h1;obtain ⟨D0,e0,w0⟩:=xc BP t0 (qx Tryz.underlying61 (hval 0 61 v0 ag ag));obtain ⟨D1,e1,w1⟩:=xc ZE t1 (qx Tryz.underlying63 (hval 1 63 v1 ag ag));obtain ⟨k,e,rfl,hk,hb⟩:=vQ e0;obtain ⟨x,y,z,rfl,hx,hy,hz⟩:=Sl e1
 have hc:=pV (rs:=[.many [.int .u8 k,.sl e.length (e.flatMap i4D)],.many [.int .u8 x,.int .u8 y,.int .u8 z]]) (vs:=[v0,v1]) (w:=W) (LC hk hx hy hz hb) ⟨_,_,rfl,w0,_,_,rfl,w1,rfl⟩ (pow hL);refine hc.mono fun e W' ⟨he,hk⟩=>?_
 subst he;have hlt:=hW'.lt
 have hargs':∀ sp:Nat->Bool,(∀ x∈(p0++(p1++[]))++[],sp x.block=true)->DataW.TrodAll enc Tryz.prog W' 0 sp true Tryz.f5.params.toList [v0,v1] [d0,d1] (p0++(p1++[])):=fun sp hsp=>
  nI laidOut hk (by rw [Tryz.params5];intro t ht;simp only [Zt,Zf,or_false] at ht;rcases ht with rfl | rfl <;> exact ⟨af,of_decide_eq_true af⟩) hA0 (fun x hx=>hlt x (by simpa using hx)) (fun x hx=>hsp x (by simpa using hx))
 exact ⟨_,rfl,vC (pa:=p0++(p1++[])) (pv:=[]) hW' (fun _ _ _=>by rw [results];exact trodAll_cons_mk (shut_bool Tryz.underlying4 _) trodAll_mk0) hargs' (fun _ _=>rfl) rfl hk (ok_one results rfl (okWide_bool_mk Tryz.underlying4 _))⟩
abbrev j4:Array Value:=#[.agg #[.int .u8 0,.slice none 0 0],.agg #[.int .u8 0,.int .u8 0,.int .u8 0]]
theorem qI (os:Os):laidMet Tryz.prog Rows.divisionWithinRow.laid ((iX os).forCall (fun _ _=>0) ⟨#[],j4,[]⟩).memory:=
 laidMet_of_run' 8 af af
theorem reads (os:Os) {H:Type} (enc:TypeId × Value->H):∃ places,DataW.whole enc Tryz.prog ((iX os).forCall (fun _ _=>0) ⟨#[],j4,[]⟩).memory Tryz.f5.params.toList Rows.divisionWithinSpec.vars false j4.toList 8=some ([.agg [.lit (.int .u8 0),.nil],.agg [.lit (.int .u8 0),.lit (.int .u8 0),.lit (.int .u8 0)]],[],places):=
 ⟨[],af⟩
set_option maxRecDepth 100000 in
theorem lifted (os:Os) (started:os.Started) (H:Type) (enc:TypeId × Value->H) (F:Stop.Interp) :
  ReturnsInHanded {} Tryz.checked os 5 .any ((OpenSpec.ofChange Rows.divisionWithinSpec).preRow enc Tryz.prog Tryz.f5 Rows.divisionWithinRow.domain false Rows.divisionWithinRow.laid) (((OpenSpec.ofChange Rows.divisionWithinSpec).at F).post enc Tryz.prog Tryz.f5 false true false false):=by
 obtain ⟨places,hx⟩:=reads os enc
 refine returnsInHanded_of_row (C:=Tryz.checked) (s:=OpenSpec.ofChange Rows.divisionWithinSpec) own started af Tryz.func5
  (witness_row_at (enc:=enc) (C:=Tryz.checked) false (iX os) j4 rfl af af af
   (OpenSpec.preRow_of_cond 8 hx af (fun k hk=>by cases hk) af (qI os))) ?_
 intro W base args ds gs before hval hW _ _ _ hL _ _;exact qP H enc W base args ds gs before hval hW hL
theorem said:Rows.DivisionWithinSaid:=
 OpenClaim.holds_of_cond 5 Tryz.f5 rfl rfl rfl rfl rfl rfl rfl ⟨rfl,rfl,rfl,rfl,rfl⟩ rfl rfl rfl rfl rfl af Tryz.func5 af
  (of_decide_eq_true af) (by unfold Func.isWrapper;first | (rw [if_pos aE];kernel_rfl) | (rw [if_neg aE];exact ⟨rfl,rfl⟩))
  (fun os started H enc _ F=>by rw [OpenClaim.pre_eq_preRow];exact lifted os started H enc F)
theorem plain (f : FuncId) (fn : Func) (hf : Tryz.pinned.checked.prog.funcNamed "schisma/schismalaw30.DivisionWithin" = some f) (hfn : Tryz.pinned.checked.prog.funcs[f]? = some fn) :
  true=Tryz.pinned.checked.prog.looks []∧∀ (j:Nat) t,fn.params[j]? = some t→Tryz.pinned.checked.prog.wantsStandIn t=false:=by
 obtain rfl : f = 5 := Option.some.inj ((show Tryz.prog.funcNamed "schisma/schismalaw30.DivisionWithin" = some 5 by kernel_rfl).symm.trans hf) |>.symm
 obtain rfl:fn=Tryz.f5:=(Option.some.inj (Tryz.func5.symm.trans hfn)).symm;refine ⟨af,fun j t ht=>?_⟩;rw [Tryz.params5] at ht;have hm:t ∈ [61,63]:=by simpa using Xe ht
 simp only [Zt,Zf,or_false] at hm;rcases hm with rfl | rfl
 ·exact (show Tryz.prog.wantsStandIn 61=false by kernel_rfl)
 ·exact (show Tryz.prog.wantsStandIn 63=false by kernel_rfl)
theorem card:Rows.DivisionWithinCardSaid:=
 Claim7.holds_tied_plain_at .later [] _ _ _ _ said (fun _ h=>by cases h) af (fun _ h=>by cases h) divisionWithin_row_tie rfl ⟨rfl,rfl⟩ af rfl plain af
end Go.Proofs.YtaiahkcmdnaooaaGreatDoor.divisionWithin
