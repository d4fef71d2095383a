/- Lemmas. -/
import Derived.Test.YtmfphhiejjamaabGreatDoorQJoin
set_option linter.unusedVariables false
set_option linter.unusedSimpArgs false
namespace Go.Proofs.YtmfphhiejjamaabGreatDoor.adaptationPotentials
open Go Go.Am Go.Vm Go.ChangeShapes Go.WideShapes Go.ChangeAt Go.RowKit
theorem own:ownKnob Tryz.prog.godebug=none:=ah
theorem laidOut:laidOutB Tryz.prog=true:=ah
theorem results:Tryz.f3.resultTypes = #[4]:=ah
theorem pow{W:World}(h:laidMetH Tryz.prog Rows.adaptationPotentialsRow.laid W):QU W:=
 adM aij VS ado adn XJ XM (l:=Rows.adaptationPotentialsRow.laid) (.tail _ (.tail _ (.head _))) h
theorem afg:Typ Tryz.prog (Tv) 35:=Iz ah
set_option maxRecDepth 20000 in
theorem WZ(H:Type)(enc:TypeId×Value->H)(W:World)(base:Nat)(args:Array Value)(ds gs:List (DataW H))(before:List MemPlace)
  (hval:∀(j:Nat) t v,Tryz.f3.params[j]?=some t->args[j]?=some v->Value.okWide Tryz.prog W .any base t v)
  (hW:DataW.Whole enc Tryz.prog Tryz.f3.params.toList Rows.adaptationPotentialsSpec.vars false W args.toList ds gs before) (hL:laidMetH Tryz.prog Rows.adaptationPotentialsRow.laid W) :
  Calls Tryz.prog 3 args W fun e W'=>∃v,e=.returned v∧Rows.adaptationPotentialsSpec.post enc Tryz.prog Tryz.f3 false true false false W args v W':=by
 have hW':=hW;obtain⟨p,q,hA0,hV,rfl,hfz,hnd⟩:=hW;have hA:DataW.TrodAll enc Tryz.prog W 0 (fun _=>true) true Tryz.f3.params.toList args.toList ds p:=hA0;rw[Tryz.params3]at hA hval;obtain⟨v0,vs0,d0,ds0,p0,q0,hargs,rfl,rfl,h0,r0⟩:=trodAll_cons hA;obtain⟨rfl,rfl,rfl⟩:=trodAll_nil r0;obtain rfl:args = #[v0]:=by cases args;simp_all
 obtain⟨rfl,rfl⟩:=trodVars_none hV;obtain⟨f0,t0⟩:=h0;obtain⟨D0,e0,w0⟩:=ZH afg t0 (NA Tryz.underlying35 (hval 0 35 v0 af af));obtain⟨f,hf,r0⟩:=WU e0;have hc:=JP (rs:=[.many D0]) (vs:=[v0]) (w:=W) (by have:=Nt hf;rw[<-r0]at this;exact this) ⟨_,_,rfl,w0,rfl⟩ (pow hL);refine hc.mono fun e W' ⟨he,hk⟩=>?_
 subst he;have hlt:=hW'.lt
 have hargs':∀sp:Nat->Bool,(∀x∈(p0++[])++[],sp x.block=true)->DataW.TrodAll enc Tryz.prog W' 0 sp true Tryz.f3.params.toList [v0] [d0] (p0++[]):=fun sp hsp=>
  zD laidOut hk (by rw[Tryz.params3];intro t ht;simp only[Zo,Ys,or_false]at ht;rcases ht with rfl<;>exact⟨ah,of_decide_eq_true ah⟩) hA0 (fun x hx=>hlt x (by simpa using hx)) (fun x hx=>hsp x (by simpa using hx))
 exact⟨_,rfl,Rv (pa:=p0++[]) (pv:=[]) hW' (fun _ _ _=>by rw[results];exact trodAll_cons_mk (shut_bool Tryz.underlying4 _) trodAll_mk0) hargs' (fun _ _=>rfl) rfl hk (ok_one results rfl (okWide_bool_mk Tryz.underlying4 _))⟩
abbrev Jb:Array Value:=#[.agg (Array.replicate 6 (.int .u8 0)++Array.replicate 45 (.int .i8 0)++Array.replicate 22 (.int .u8 0)++Array.replicate 46 (.int .i8 0)++Array.replicate 1 (.int .u8 0))]
theorem VF(os:Os):laidMet Tryz.prog Rows.adaptationPotentialsRow.laid ((BL os).forCall (fun _ _=>0) ⟨#[],Jb,[]⟩).memory:=
 laidMet_of_run' 8 ah ah
theorem reads(os:Os){H:Type}(enc:TypeId×Value->H):∃places,DataW.whole enc Tryz.prog ((BL os).forCall (fun _ _=>0) ⟨#[],Jb,[]⟩).memory Tryz.f3.params.toList Rows.adaptationPotentialsSpec.vars false Jb.toList 8=some ([.agg [.agg [.lit (.int .u8 0),.agg [.lit (.int .u8 0),.lit (.int .u8 0),.lit (.int .u8 0),.lit (.int .u8 0),.lit (.int .u8 0)],.agg [.agg [.agg [.lit (.int .i8 0),.lit (.int .i8 0),.lit (.int .i8 0)],.agg [.lit (.int .i8 0),.lit (.int .i8 0),.lit (.int .i8 0)],.agg [.lit (.int .i8 0),.lit (.int .i8 0),.lit (.int .i8 0)]],.agg [.agg [.lit (.int .i8 0),.lit (.int .i8 0),.lit (.int .i8 0)],.agg [.lit (.int .i8 0),.lit (.int .i8 0),.lit (.int .i8 0)],.agg [.lit (.int .i8 0),.lit (.int .i8 0),.lit (.int .i8 0)]],.agg [.agg [.lit (.int .i8 0),.lit (.int .i8 0),.lit (.int .i8 0)],.agg [.lit (.int .i8 0),.lit (.int .i8 0),.lit (.int .i8 0)],.agg [.lit (.int .i8 0),.lit (.int .i8 0),.lit (.int .i8 0)]],.agg [.agg [.lit (.int .i8 0),.lit (.int .i8 0),.lit (.int .i8 0)],.agg [.lit (.int .i8 0),.lit (.int .i8 0),.lit (.int .i8 0)],.agg [.lit (.int .i8 0),.lit (.int .i8 0),.lit (.int .i8 0)]],.agg [.agg [.lit (.int .i8 0),.lit (.int .i8 0),.lit (.int .i8 0)],.agg [.lit (.int .i8 0),.lit (.int .i8 0),.lit (.int .i8 0)],.agg [.lit (.int .i8 0),.lit (.int .i8 0),.lit (.int .i8 0)]]],.agg [.agg [.agg [.lit (.int .u8 0),.lit (.int .u8 0)],.agg [.lit (.int .u8 0),.lit (.int .u8 0)]],.agg [.agg [.lit (.int .u8 0),.lit (.int .u8 0)],.agg [.lit (.int .u8 0),.lit (.int .u8 0)]],.agg [.agg [.lit (.int .u8 0),.lit (.int .u8 0)],.agg [.lit (.int .u8 0),.lit (.int .u8 0)]],.agg [.agg [.lit (.int .u8 0),.lit (.int .u8 0)],.agg [.lit (.int .u8 0),.lit (.int .u8 0)]]],.lit (.int .u8 0)],.agg [.lit (.int .u8 0),.lit (.int .u8 0),.lit (.int .u8 0),.lit (.int .u8 0),.lit (.int .u8 0)],.agg [.agg [.agg [.lit (.int .i8 0),.lit (.int .i8 0),.lit (.int .i8 0)],.agg [.lit (.int .i8 0),.lit (.int .i8 0),.lit (.int .i8 0)],.agg [.lit (.int .i8 0),.lit (.int .i8 0),.lit (.int .i8 0)]],.agg [.agg [.lit (.int .i8 0),.lit (.int .i8 0),.lit (.int .i8 0)],.agg [.lit (.int .i8 0),.lit (.int .i8 0),.lit (.int .i8 0)],.agg [.lit (.int .i8 0),.lit (.int .i8 0),.lit (.int .i8 0)]],.agg [.agg [.lit (.int .i8 0),.lit (.int .i8 0),.lit (.int .i8 0)],.agg [.lit (.int .i8 0),.lit (.int .i8 0),.lit (.int .i8 0)],.agg [.lit (.int .i8 0),.lit (.int .i8 0),.lit (.int .i8 0)]],.agg [.agg [.lit (.int .i8 0),.lit (.int .i8 0),.lit (.int .i8 0)],.agg [.lit (.int .i8 0),.lit (.int .i8 0),.lit (.int .i8 0)],.agg [.lit (.int .i8 0),.lit (.int .i8 0),.lit (.int .i8 0)]],.agg [.agg [.lit (.int .i8 0),.lit (.int .i8 0),.lit (.int .i8 0)],.agg [.lit (.int .i8 0),.lit (.int .i8 0),.lit (.int .i8 0)],.agg [.lit (.int .i8 0),.lit (.int .i8 0),.lit (.int .i8 0)]]],.agg [.lit (.int .i8 0),.lit (.int .u8 0)]]],[],places):=
 ⟨[],ah⟩
set_option maxRecDepth 100000 in
theorem lifted(os:Os)(started:os.Started)(H:Type)(enc:TypeId×Value->H)(F:Stop.Interp) :
  ReturnsInHanded {} Tryz.checked os 3 .any ((OpenSpec.ofChange Rows.adaptationPotentialsSpec).preRow enc Tryz.prog Tryz.f3 Rows.adaptationPotentialsRow.domain false Rows.adaptationPotentialsRow.laid) (((OpenSpec.ofChange Rows.adaptationPotentialsSpec).at F).post enc Tryz.prog Tryz.f3 false true false false):=by
 obtain⟨places,hx⟩:=reads os enc
 refine returnsInHanded_of_row (C:=Tryz.checked) (s:=OpenSpec.ofChange Rows.adaptationPotentialsSpec) own started ah Tryz.func3
  (witness_row_at (enc:=enc) (C:=Tryz.checked) false (BL os) Jb rfl ah ah ah
   (OpenSpec.preRow_of_cond 8 hx ah (fun k hk=>by cases hk) ah (VF os))) ?_
 intro W base args ds gs before hval hW _ _ _ hL _ _;exact WZ H enc W base args ds gs before hval hW hL
theorem said:Rows.AdaptationPotentialsSaid:=
 OpenClaim.holds_of_cond 3 Tryz.f3 rfl rfl rfl rfl rfl rfl rfl ⟨rfl,rfl,rfl,rfl,rfl⟩ rfl rfl rfl rfl rfl ah Tryz.func3 ah
  (of_decide_eq_true ah) (by unfold Func.isWrapper;first|(rw[if_pos bb];kernel_rfl)|(rw[if_neg bb];exact⟨rfl,rfl⟩))
  (fun os started H enc _ F=>by rw[OpenClaim.pre_eq_preRow];exact lifted os started H enc F)
theorem plain (f:FuncId) (fn:Func) (hf:Tryz.pinned.checked.prog.funcNamed "schisma/schismalaw52.AdaptationPotentials" = some f) (hfn:Tryz.pinned.checked.prog.funcs[f]?=some fn) :
  true=Tryz.pinned.checked.prog.looks []∧∀(j:Nat) t,fn.params[j]?=some t→Tryz.pinned.checked.prog.wantsStandIn t=false:=by
 obtain rfl:f=3:=Option.some.inj ((show Tryz.prog.funcNamed "schisma/schismalaw52.AdaptationPotentials" = some 3 by kernel_rfl).symm.trans hf) |>.symm
 obtain rfl:fn=Tryz.f3:=(Option.some.inj (Tryz.func3.symm.trans hfn)).symm;refine⟨ah,fun j t ht=>?_⟩;rw[Tryz.params3]at ht;have hm:t ∈ [35]:=by simpa using Array.mem_of_getElem? ht
 simp only[Zo,Ys,or_false]at hm;rcases hm with rfl
 .exact(show Tryz.prog.wantsStandIn 35=false by kernel_rfl)
theorem card:Rows.AdaptationPotentialsCardSaid:=
 Claim7.holds_tied_plain_at .later [] _ _ _ _ said (fun _ h=>by cases h) ah (fun _ h=>by cases h) adaptationPotentials_row_tie rfl ⟨rfl,rfl⟩ ah rfl plain ah
end Go.Proofs.YtmfphhiejjamaabGreatDoor.adaptationPotentials
