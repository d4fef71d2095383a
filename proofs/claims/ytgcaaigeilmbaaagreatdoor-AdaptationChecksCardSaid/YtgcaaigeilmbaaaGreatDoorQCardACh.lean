/- Lemmas. -/
import Derived.Test.YtgcaaigeilmbaaaGreatDoorQAbP
set_option linter.unusedVariables false
set_option linter.unusedSimpArgs false
namespace Go.Proofs.YtgcaaigeilmbaaaGreatDoor.adaptationChecks
open Go Go.Am Go.Vm Go.ChangeShapes Go.WideShapes Go.ChangeAt Go.RowKit
theorem own:ownKnob Tryz.prog.godebug=none:=AG
theorem laidOut:laidOutB Tryz.prog=true:=AG
theorem results:Tryz.f3.resultTypes = #[4]:=AG
theorem pow{W:World}(h:laidMetH Tryz.prog Rows.adaptationChecksRow.laid W):nP W:=
 uh zI qB tS tR qX qY (l:=Rows.adaptationChecksRow.laid) (.tail _ (.tail _ (.head _))) h
theorem vI:Typ Tryz.prog (ZJ) 35:=gN AG
theorem vH:Typ Tryz.prog (.st [.int .u8,.int .u8,mY,.st [.str,.str]]) 42:=gN AG
set_option maxRecDepth 20000 in
theorem qV(H:Type)(enc:TypeId×Value->H)(W:World)(base:Nat)(args:Array Value)(ds gs:List (DataW H))(before:List MemPlace)
  (hval:∀(j:Nat) t v,Tryz.f3.params[j]?=some t->args[j]?=some v->Value.okWide Tryz.prog W .any base t v)
  (hW:DataW.Whole enc Tryz.prog Tryz.f3.params.toList Rows.adaptationChecksSpec.vars false W args.toList ds gs before) (hL:laidMetH Tryz.prog Rows.adaptationChecksRow.laid W) :
  Calls Tryz.prog 3 args W fun e W'=>∃v,e=.returned v∧Rows.adaptationChecksSpec.post enc Tryz.prog Tryz.f3 false true false false W args v W':=by
 have hW':=hW;obtain⟨p,q,hA0,hV,rfl,hfz,hnd⟩:=hW;have hA:DataW.TrodAll enc Tryz.prog W 0 (fun _=>true) true Tryz.f3.params.toList args.toList ds p:=hA0;rw[Tryz.params3]at hA hval;obtain⟨v0,vs0,d0,ds0,p0,q0,hargs,rfl,rfl,h0,r0⟩:=trodAll_cons hA;obtain⟨v1,vs1,d1,ds1,p1,q1,rfl,rfl,rfl,h1,r1⟩:=trodAll_cons r0;obtain⟨rfl,rfl,rfl⟩:=trodAll_nil r1;obtain rfl:args = #[v0,v1]:=by cases args;simp_all
 obtain⟨rfl,rfl⟩:=trodVars_none hV;obtain⟨f0,t0⟩:=h0;obtain⟨f1,t1⟩:=h1;obtain⟨D0,e0,w0⟩:=mS vI t0 (gQ Tryz.underlying35 (hval 0 35 v0 mR mR));obtain⟨D1,e1,w1⟩:=mS vH t1 (gQ Tryz.underlying42 (hval 1 42 v1 mR mR));obtain⟨f,hf,r0⟩:=abi e0;obtain⟨c,hh,ha,r1⟩:=sS e1
 have hc:=jV (rs:=[.many D0,.many D1]) (vs:=[v0,v1]) (w:=W) ((by have:=UM hf (c:=c) hh ha;rw[<-r0,<-r1]at this;exact this)) ⟨_,_,rfl,w0,_,_,rfl,w1,rfl⟩ (pow hL);refine hc.mono fun e W' ⟨he,hk⟩=>?_
 subst he;have hlt:=hW'.lt
 have hargs':∀sp:Nat->Bool,(∀x∈(p0++(p1++[]))++[],sp x.block=true)->DataW.TrodAll enc Tryz.prog W' 0 sp true Tryz.f3.params.toList [v0,v1] [d0,d1] (p0++(p1++[])):=fun sp hsp=>
  eW laidOut hk (by rw[Tryz.params3];intro t ht;simp only[Zs,Ye,or_false]at ht;rcases ht with rfl|rfl<;>exact⟨AG,of_decide_eq_true AG⟩) hA0 (fun x hx=>hlt x (by simpa using hx)) (fun x hx=>hsp x (by simpa using hx))
 exact⟨_,rfl,WX (pa:=p0++(p1++[])) (pv:=[]) hW' (fun _ _ _=>by rw[results];exact trodAll_cons_mk (shut_bool Tryz.underlying4 _) trodAll_mk0) hargs' (fun _ _=>rfl) rfl hk (ok_one results rfl (okWide_bool_mk Tryz.underlying4 _))⟩
abbrev jG:Array Value:=#[.agg (Array.replicate 6 (.int .u8 0)++Array.replicate 45 (.int .i8 0)++Array.replicate 22 (.int .u8 0)++Array.replicate 46 (.int .i8 0)++Array.replicate 1 (.int .u8 0)),.agg #[.int .u8 0,.int .u8 0,.slice none 0 0,.string ⟨#[]⟩,.string ⟨#[]⟩]]
theorem qq(os:Os):laidMet Tryz.prog Rows.adaptationChecksRow.laid ((fM os).forCall (fun _ _=>0) ⟨#[],jG,[]⟩).memory:=
 laidMet_of_run' 8 AG AG
theorem reads(os:Os){H:Type}(enc:TypeId×Value->H):∃places,DataW.whole enc Tryz.prog ((fM os).forCall (fun _ _=>0) ⟨#[],jG,[]⟩).memory Tryz.f3.params.toList Rows.adaptationChecksSpec.vars false jG.toList 8=some ([.agg [.agg [.lit (.int .u8 0),.agg [.lit (.int .u8 0),.lit (.int .u8 0),.lit (.int .u8 0),.lit (.int .u8 0),.lit (.int .u8 0)],.agg [.agg [.agg [.lit (.int .i8 0),.lit (.int .i8 0),.lit (.int .i8 0)],.agg [.lit (.int .i8 0),.lit (.int .i8 0),.lit (.int .i8 0)],.agg [.lit (.int .i8 0),.lit (.int .i8 0),.lit (.int .i8 0)]],.agg [.agg [.lit (.int .i8 0),.lit (.int .i8 0),.lit (.int .i8 0)],.agg [.lit (.int .i8 0),.lit (.int .i8 0),.lit (.int .i8 0)],.agg [.lit (.int .i8 0),.lit (.int .i8 0),.lit (.int .i8 0)]],.agg [.agg [.lit (.int .i8 0),.lit (.int .i8 0),.lit (.int .i8 0)],.agg [.lit (.int .i8 0),.lit (.int .i8 0),.lit (.int .i8 0)],.agg [.lit (.int .i8 0),.lit (.int .i8 0),.lit (.int .i8 0)]],.agg [.agg [.lit (.int .i8 0),.lit (.int .i8 0),.lit (.int .i8 0)],.agg [.lit (.int .i8 0),.lit (.int .i8 0),.lit (.int .i8 0)],.agg [.lit (.int .i8 0),.lit (.int .i8 0),.lit (.int .i8 0)]],.agg [.agg [.lit (.int .i8 0),.lit (.int .i8 0),.lit (.int .i8 0)],.agg [.lit (.int .i8 0),.lit (.int .i8 0),.lit (.int .i8 0)],.agg [.lit (.int .i8 0),.lit (.int .i8 0),.lit (.int .i8 0)]]],.agg [.agg [.agg [.lit (.int .u8 0),.lit (.int .u8 0)],.agg [.lit (.int .u8 0),.lit (.int .u8 0)]],.agg [.agg [.lit (.int .u8 0),.lit (.int .u8 0)],.agg [.lit (.int .u8 0),.lit (.int .u8 0)]],.agg [.agg [.lit (.int .u8 0),.lit (.int .u8 0)],.agg [.lit (.int .u8 0),.lit (.int .u8 0)]],.agg [.agg [.lit (.int .u8 0),.lit (.int .u8 0)],.agg [.lit (.int .u8 0),.lit (.int .u8 0)]]],.lit (.int .u8 0)],.agg [.lit (.int .u8 0),.lit (.int .u8 0),.lit (.int .u8 0),.lit (.int .u8 0),.lit (.int .u8 0)],.agg [.agg [.agg [.lit (.int .i8 0),.lit (.int .i8 0),.lit (.int .i8 0)],.agg [.lit (.int .i8 0),.lit (.int .i8 0),.lit (.int .i8 0)],.agg [.lit (.int .i8 0),.lit (.int .i8 0),.lit (.int .i8 0)]],.agg [.agg [.lit (.int .i8 0),.lit (.int .i8 0),.lit (.int .i8 0)],.agg [.lit (.int .i8 0),.lit (.int .i8 0),.lit (.int .i8 0)],.agg [.lit (.int .i8 0),.lit (.int .i8 0),.lit (.int .i8 0)]],.agg [.agg [.lit (.int .i8 0),.lit (.int .i8 0),.lit (.int .i8 0)],.agg [.lit (.int .i8 0),.lit (.int .i8 0),.lit (.int .i8 0)],.agg [.lit (.int .i8 0),.lit (.int .i8 0),.lit (.int .i8 0)]],.agg [.agg [.lit (.int .i8 0),.lit (.int .i8 0),.lit (.int .i8 0)],.agg [.lit (.int .i8 0),.lit (.int .i8 0),.lit (.int .i8 0)],.agg [.lit (.int .i8 0),.lit (.int .i8 0),.lit (.int .i8 0)]],.agg [.agg [.lit (.int .i8 0),.lit (.int .i8 0),.lit (.int .i8 0)],.agg [.lit (.int .i8 0),.lit (.int .i8 0),.lit (.int .i8 0)],.agg [.lit (.int .i8 0),.lit (.int .i8 0),.lit (.int .i8 0)]]],.agg [.lit (.int .i8 0),.lit (.int .u8 0)]],.agg [.lit (.int .u8 0),.lit (.int .u8 0),.nil,.agg [.lit (.string []),.lit (.string [])]]],[],places):=
 ⟨[],AG⟩
set_option maxRecDepth 100000 in
theorem lifted(os:Os)(started:os.Started)(H:Type)(enc:TypeId×Value->H)(F:Stop.Interp) :
  ReturnsInHanded {} Tryz.checked os 3 .any ((OpenSpec.ofChange Rows.adaptationChecksSpec).preRow enc Tryz.prog Tryz.f3 Rows.adaptationChecksRow.domain false Rows.adaptationChecksRow.laid) (((OpenSpec.ofChange Rows.adaptationChecksSpec).at F).post enc Tryz.prog Tryz.f3 false true false false):=by
 obtain⟨places,hx⟩:=reads os enc
 refine returnsInHanded_of_row (C:=Tryz.checked) (s:=OpenSpec.ofChange Rows.adaptationChecksSpec) own started AG Tryz.func3
  (witness_row_at (enc:=enc) (C:=Tryz.checked) false (fM os) jG rfl AG AG AG
   (OpenSpec.preRow_of_cond 8 hx AG (fun k hk=>by cases hk) AG (qq os))) ?_
 intro W base args ds gs before hval hW _ _ _ hL _ _;exact qV H enc W base args ds gs before hval hW hL
theorem said:Rows.AdaptationChecksSaid:=
 OpenClaim.holds_of_cond 3 Tryz.f3 rfl rfl rfl rfl rfl rfl rfl ⟨rfl,rfl,rfl,rfl,rfl⟩ rfl rfl rfl rfl rfl AG Tryz.func3 AG
  (of_decide_eq_true AG) (by unfold Func.isWrapper;first|(rw[if_pos dQ];kernel_rfl)|(rw[if_neg dQ];exact⟨rfl,rfl⟩))
  (fun os started H enc _ F=>by rw[OpenClaim.pre_eq_preRow];exact lifted os started H enc F)
theorem plain (f:FuncId) (fn:Func) (hf:Tryz.pinned.checked.prog.funcNamed "schisma/schismalaw52.AdaptationChecks" = some f) (hfn:Tryz.pinned.checked.prog.funcs[f]?=some fn) :
  true=Tryz.pinned.checked.prog.looks []∧∀(j:Nat) t,fn.params[j]?=some t→Tryz.pinned.checked.prog.wantsStandIn t=false:=by
 obtain rfl:f=3:=Option.some.inj ((show Tryz.prog.funcNamed "schisma/schismalaw52.AdaptationChecks" = some 3 by kernel_rfl).symm.trans hf) |>.symm
 obtain rfl:fn=Tryz.f3:=(Option.some.inj (Tryz.func3.symm.trans hfn)).symm;refine⟨AG,fun j t ht=>?_⟩;rw[Tryz.params3]at ht;have hm:t ∈ [35,42]:=by simpa using Array.mem_of_getElem? ht
 simp only[Zs,Ye,or_false]at hm;rcases hm with rfl|rfl
 .exact(show Tryz.prog.wantsStandIn 35=false by kernel_rfl)
 .exact(show Tryz.prog.wantsStandIn 42=false by kernel_rfl)
theorem card:Rows.AdaptationChecksCardSaid:=
 Claim7.holds_tied_plain_at .later [] _ _ _ _ said (fun _ h=>by cases h) AG (fun _ h=>by cases h) adaptationChecks_row_tie rfl ⟨rfl,rfl⟩ AG rfl plain AG
end Go.Proofs.YtgcaaigeilmbaaaGreatDoor.adaptationChecks
