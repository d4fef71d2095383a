/- Lemmas. -/
import Derived.Test.YthjogmhfdpaaaabGreatDoorQJoin
set_option linter.unusedVariables false
set_option linter.unusedSimpArgs false
namespace Go.Proofs.YthjogmhfdpaaaabGreatDoor.damageOrders
open Go Go.Am Go.Vm Go.ChangeShapes Go.WideShapes Go.ChangeAt Go.RowKit
theorem own:ownKnob Tryz.prog.godebug=none:=aJ
theorem laidOut:laidOutB Tryz.prog=true:=aJ
theorem results:Tryz.f3.resultTypes = #[4]:=aJ
theorem pow{W:World}(h:laidMetH Tryz.prog Rows.damageOrdersRow.laid W):Jl W:=
 ahz alF alE acx acw aoU aoV (l:=Rows.damageOrdersRow.laid) (.tail _ (.tail _ (.head _))) h
theorem acB:nV Tryz.prog (Ra) 32:=Cy aJ
theorem acA:nV Tryz.prog (.sl Kz) 33:=Cy aJ
theorem aoW:Tryz.prog.cellsOf 33=1:=aJ
set_option maxRecDepth 20000 in
theorem aow(H:Type)(enc:TypeId×Value->H)(W:World)(base:Nat)(args:Array Value)(ds gs:List (DataW H))(before:List MemPlace)
  (hval:∀(j:Nat) t v,Tryz.f3.params[j]?=some t->args[j]?=some v->Value.okWide Tryz.prog W .any base t v)
  (hW:DataW.Whole enc Tryz.prog Tryz.f3.params.toList Rows.damageOrdersSpec.vars false W args.toList ds gs before) (hL:laidMetH Tryz.prog Rows.damageOrdersRow.laid W) :
  Calls Tryz.prog 3 args W λe W'=>∃v,e=.returned v∧Rows.damageOrdersSpec.post enc Tryz.prog Tryz.f3 false true false false W args v W':=by
 have hW':=hW;obtain⟨p,q,hA0,hV,rfl,hfz,hnd⟩:=hW;have hA:DataW.TrodAll enc Tryz.prog W 0 (λ_=>true) true Tryz.f3.params.toList args.toList ds p:=hA0;rw[Tryz.params3]at hA hval;obtain⟨v0,vs0,d0,ds0,p0,q0,hargs,rfl,rfl,h0,r0⟩:=trodAll_cons hA;obtain⟨v1,vs1,d1,ds1,p1,q1,rfl,rfl,rfl,h1,r1⟩:=trodAll_cons r0;obtain⟨rfl,rfl,rfl⟩:=trodAll_nil r1;obtain rfl:args = #[v0,v1]:=by cases args;simp_all
 obtain⟨rfl,rfl⟩:=trodVars_none hV;obtain⟨f0,t0⟩:=h0;obtain⟨f1,t1⟩:=h1;obtain⟨D0,e0,w0⟩:=ach acB t0 (adZ Tryz.underlying32 (hval 0 32 v0 ac ac));obtain⟨D1,e1,w1⟩:=acg acA aoW t1 (ae9 Tryz.underlying33 (hval 1 33 v1 ac ac));obtain⟨k,e,v,gs,hk,hb,hg,r0⟩:=an3 e0;obtain⟨l,rfl,hm⟩:=an5 e1
 have hc:=ao3 (rs:=[.many D0,.one (.sl l.length (l.flatMap mD))]) (vs:=[v0,v1]) (w:=W) ((by have:=ajT (Ok:=v) hk hb hg hm;rw[<-r0]at this;exact this)) ⟨_,_,rfl,w0,_,_,rfl,w1,rfl⟩ (pow hL);refine hc.mono λe W' ⟨he,hk⟩=>?_
 subst he;have hlt:=hW'.lt
 have hargs':∀sp:Nat->Bool,(∀x∈(p0++(p1++[]))++[],sp x.block=true)->DataW.TrodAll enc Tryz.prog W' 0 sp true Tryz.f3.params.toList [v0,v1] [d0,d1] (p0++(p1++[])):=λsp hsp=>
  PQ laidOut hk (by rw[Tryz.params3];intro t ht;simp only[Zy,Y4,or_false]at ht;rcases ht with rfl|rfl<;>exact⟨aJ,of_decide_eq_true aJ⟩) hA0 (λx hx=>hlt x (by simpa using hx)) (λx hx=>hsp x (by simpa using hx))
 exact⟨_,rfl,ahC (pa:=p0++(p1++[])) (pv:=[]) hW' (λ_ _ _=>by rw[results];exact trodAll_cons_mk (shut_bool Tryz.underlying4 _) trodAll_mk0) hargs' (λ_ _=>rfl) rfl hk (ok_one results rfl (okWide_bool_mk Tryz.underlying4 _))⟩
abbrev GR:Array Value:=#[.agg #[.int .u8 0,.slice none 0 0,.bool false,.int .i8 0,.int .u8 0,.int .i8 0,.int .u8 0,.int .i8 0,.int .u8 0,.int .i8 0,.int .u8 0,.int .i8 0,.int .u8 0,.int .i8 0,.int .u8 0,.int .i8 0,.int .u8 0,.int .i8 0,.int .u8 0,.int .i8 0,.int .u8 0,.int .i8 0,.int .u8 0,.int .i8 0,.int .u8 0,.int .i8 0,.int .u8 0,.int .i8 0,.int .u8 0,.int .i8 0,.int .u8 0,.int .i8 0,.int .u8 0,.int .i8 0,.int .u8 0],.slice none 0 0]
theorem akq(os:Os):laidMet Tryz.prog Rows.damageOrdersRow.laid ((Mv os).forCall (λ_ _=>0) ⟨#[],GR,[]⟩).memory:=
 laidMet_of_run' 8 aJ aJ
theorem reads(os:Os){H:Type}(enc:TypeId×Value->H):∃places,DataW.whole enc Tryz.prog ((Mv os).forCall (λ_ _=>0) ⟨#[],GR,[]⟩).memory Tryz.f3.params.toList Rows.damageOrdersSpec.vars false GR.toList 8=some ([.agg [.agg [.lit (.int .u8 0),.nil,.lit (.bool false)],.agg [.agg [.agg [.lit (.int .i8 0),.lit (.int .u8 0)],.agg [.lit (.int .i8 0),.lit (.int .u8 0)],.agg [.lit (.int .i8 0),.lit (.int .u8 0)],.agg [.lit (.int .i8 0),.lit (.int .u8 0)]],.agg [.agg [.lit (.int .i8 0),.lit (.int .u8 0)],.agg [.lit (.int .i8 0),.lit (.int .u8 0)],.agg [.lit (.int .i8 0),.lit (.int .u8 0)],.agg [.lit (.int .i8 0),.lit (.int .u8 0)]],.agg [.agg [.lit (.int .i8 0),.lit (.int .u8 0)],.agg [.lit (.int .i8 0),.lit (.int .u8 0)],.agg [.lit (.int .i8 0),.lit (.int .u8 0)],.agg [.lit (.int .i8 0),.lit (.int .u8 0)]],.agg [.agg [.lit (.int .i8 0),.lit (.int .u8 0)],.agg [.lit (.int .i8 0),.lit (.int .u8 0)],.agg [.lit (.int .i8 0),.lit (.int .u8 0)],.agg [.lit (.int .i8 0),.lit (.int .u8 0)]]]],.nil],[],places):=
 ⟨[],aJ⟩
set_option maxRecDepth 100000 in
theorem lifted(os:Os)(started:os.Started)(H:Type)(enc:TypeId×Value->H)(F:Stop.Interp) :
  ReturnsInHanded {} Tryz.checked os 3 .any ((OpenSpec.ofChange Rows.damageOrdersSpec).preRow enc Tryz.prog Tryz.f3 Rows.damageOrdersRow.domain false Rows.damageOrdersRow.laid) (((OpenSpec.ofChange Rows.damageOrdersSpec).at F).post enc Tryz.prog Tryz.f3 false true false false):=by
 obtain⟨places,hx⟩:=reads os enc
 refine returnsInHanded_of_row (C:=Tryz.checked) (s:=OpenSpec.ofChange Rows.damageOrdersSpec) own started aJ Tryz.func3
  (witness_row_at (enc:=enc) (C:=Tryz.checked) false (Mv os) GR rfl aJ aJ aJ
   (OpenSpec.preRow_of_cond 8 hx aJ (λk hk=>by cases hk) aJ (akq os))) ?_
 intro W base args ds gs before hval hW _ _ _ hL _ _;exact aow H enc W base args ds gs before hval hW hL
theorem said:Rows.DamageOrdersSaid:=
 OpenClaim.holds_of_cond 3 Tryz.f3 rfl rfl rfl rfl rfl rfl rfl ⟨rfl,rfl,rfl,rfl,rfl⟩ rfl rfl rfl rfl rfl aJ Tryz.func3 aJ
  (of_decide_eq_true aJ) (by unfold Func.isWrapper;first|(rw[if_pos dw];kernel_rfl)|(rw[if_neg dw];exact⟨rfl,rfl⟩))
  (λos started H enc _ F=>by rw[OpenClaim.pre_eq_preRow];exact lifted os started H enc F)
theorem plain (f:FuncId) (fn:Func) (hf:Tryz.pinned.checked.prog.funcNamed "schisma/schismalaw25.DamageOrders" = some f) (hfn:Tryz.pinned.checked.prog.funcs[f]?=some fn) :
  true=Tryz.pinned.checked.prog.looks []∧∀(j:Nat) t,fn.params[j]?=some t→Tryz.pinned.checked.prog.wantsStandIn t=false:=by
 obtain rfl:f=3:=Option.some.inj ((show Tryz.prog.funcNamed "schisma/schismalaw25.DamageOrders" = some 3 by kernel_rfl).symm.trans hf) |>.symm
 obtain rfl:fn=Tryz.f3:=(Option.some.inj (Tryz.func3.symm.trans hfn)).symm;refine⟨aJ,λj t ht=>?_⟩;rw[Tryz.params3]at ht;have hm:t ∈ [32,33]:=by simpa using Array.mem_of_getElem? ht
 simp only[Zy,Y4,or_false]at hm;rcases hm with rfl|rfl
 .exact(show Tryz.prog.wantsStandIn 32=false by kernel_rfl)
 .exact(show Tryz.prog.wantsStandIn 33=false by kernel_rfl)
theorem card:Rows.DamageOrdersCardSaid:=
 Claim7.holds_tied_plain_at .later [] _ _ _ _ said (λ_ h=>by cases h) aJ (λ_ h=>by cases h) damageOrders_row_tie rfl ⟨rfl,rfl⟩ aJ rfl plain aJ
end Go.Proofs.YthjogmhfdpaaaabGreatDoor.damageOrders
