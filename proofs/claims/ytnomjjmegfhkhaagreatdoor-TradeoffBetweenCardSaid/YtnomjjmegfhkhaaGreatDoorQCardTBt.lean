/- Lemmas. -/
import Derived.Test.YtnomjjmegfhkhaaGreatDoorQAbF
set_option linter.unusedVariables false
set_option linter.unusedSimpArgs false
namespace Go.Proofs.YtnomjjmegfhkhaaGreatDoor.tradeoffBetween
open Go Go.Am Go.Vm Go.ChangeShapes Go.WideShapes Go.ChangeAt Go.RowKit
theorem own:ownKnob Tryz.prog.godebug=none:=ag
theorem laidOut:laidOutB Tryz.prog=true:=ag
theorem results:Tryz.f3.resultTypes = #[4]:=ag
theorem pow{W:World}(h:laidMetH Tryz.prog Rows.tradeoffBetweenRow.laid W):Rv W:=
 ad6 aiq XV adL adK ZT ZU (l:=Rows.tradeoffBetweenRow.laid) (.tail _ (.tail _ (.head _))) h
theorem afC:Typ Tryz.prog (UB) 24:=DZ ag
theorem afB:Typ Tryz.prog (.sl UA) 25:=DZ ag
theorem acn:Tryz.prog.cellsOf 25=1:=ag
set_option maxRecDepth 20000 in
theorem ZP(H:Type)(enc:TypeId×Value->H)(W:World)(base:Nat)(args:Array Value)(ds gs:List (DataW H))(before:List MemPlace)
  (hval:∀(j:Nat) t v,Tryz.f3.params[j]?=some t->args[j]?=some v->Value.okWide Tryz.prog W .any base t v)
  (hW:DataW.Whole enc Tryz.prog Tryz.f3.params.toList Rows.tradeoffBetweenSpec.vars false W args.toList ds gs before) (hL:laidMetH Tryz.prog Rows.tradeoffBetweenRow.laid W) :
  Calls Tryz.prog 3 args W λe W'=>∃v,e=.returned v∧Rows.tradeoffBetweenSpec.post enc Tryz.prog Tryz.f3 false true false false W args v W':=by
 have hW':=hW;obtain⟨p,q,hA0,hV,rfl,hfz,hnd⟩:=hW;have hA:DataW.TrodAll enc Tryz.prog W 0 (λ_=>true) true Tryz.f3.params.toList args.toList ds p:=hA0;rw[Tryz.params3]at hA hval;obtain⟨v0,vs0,d0,ds0,p0,q0,hargs,rfl,rfl,h0,r0⟩:=trodAll_cons hA;obtain⟨v1,vs1,d1,ds1,p1,q1,rfl,rfl,rfl,h1,r1⟩:=trodAll_cons r0;obtain⟨rfl,rfl,rfl⟩:=trodAll_nil r1;obtain rfl:args = #[v0,v1]:=by cases args;simp_all
 obtain⟨rfl,rfl⟩:=trodVars_none hV;obtain⟨f0,t0⟩:=h0;obtain⟨f1,t1⟩:=h1;obtain⟨D0,e0,w0⟩:=aaI afC t0 (NI Tryz.underlying24 (hval 0 24 v0 ac ac));obtain⟨D1,e1,w1⟩:=adG afB acn t1 (NL Tryz.underlying25 (hval 1 25 v1 ac ac));obtain⟨k,e,v,rfl,hk,hb⟩:=ZI e0;obtain⟨l,r1,hl⟩:=ZH e1;obtain rfl:=V.d.inj r1
 have hc:=J6 (rs:=[.many [.int .u8 k,.sl e.length (e.flatMap i4D),.bool v],.one (.sl l.length (l.map row))]) (vs:=[v0,v1]) (w:=W) ((by have:=Ml (vals:=v) (l:=l) hk hb;exact this)) ⟨_,_,rfl,w0,_,_,rfl,w1,rfl⟩ (pow hL);refine hc.mono λe W' ⟨he,hk⟩=>?_
 subst he;have hlt:=hW'.lt
 have hargs':∀sp:Nat->Bool,(∀x∈(p0++(p1++[]))++[],sp x.block=true)->DataW.TrodAll enc Tryz.prog W' 0 sp true Tryz.f3.params.toList [v0,v1] [d0,d1] (p0++(p1++[])):=λsp hsp=>
  yZ laidOut hk (by rw[Tryz.params3];intro t ht;simp only[Zy,Yv,or_false]at ht;rcases ht with rfl|rfl<;>exact⟨ag,of_decide_eq_true ag⟩) hA0 (λx hx=>hlt x (by simpa using hx)) (λx hx=>hsp x (by simpa using hx))
 exact⟨_,rfl,Sm (pa:=p0++(p1++[])) (pv:=[]) hW' (λ_ _ _=>by rw[results];exact trodAll_cons_mk (shut_bool Tryz.underlying4 _) trodAll_mk0) hargs' (λ_ _=>rfl) rfl hk (ok_one results rfl (okWide_bool_mk Tryz.underlying4 _))⟩
abbrev Jk:Array Value:=#[.agg #[.int .u8 0,.slice none 0 0,.bool false],.slice none 0 0]
theorem WZ(os:Os):laidMet Tryz.prog Rows.tradeoffBetweenRow.laid ((By os).forCall (λ_ _=>0) ⟨#[],Jk,[]⟩).memory:=
 laidMet_of_run' 8 ag ag
theorem reads(os:Os){H:Type}(enc:TypeId×Value->H):∃places,DataW.whole enc Tryz.prog ((By os).forCall (λ_ _=>0) ⟨#[],Jk,[]⟩).memory Tryz.f3.params.toList Rows.tradeoffBetweenSpec.vars false Jk.toList 8=some ([.agg [.lit (.int .u8 0),.nil,.lit (.bool false)],.nil],[],places):=
 ⟨[],ag⟩
set_option maxRecDepth 100000 in
theorem lifted(os:Os)(started:os.Started)(H:Type)(enc:TypeId×Value->H)(F:Stop.Interp) :
  ReturnsInHanded {} Tryz.checked os 3 .any ((OpenSpec.ofChange Rows.tradeoffBetweenSpec).preRow enc Tryz.prog Tryz.f3 Rows.tradeoffBetweenRow.domain false Rows.tradeoffBetweenRow.laid) (((OpenSpec.ofChange Rows.tradeoffBetweenSpec).at F).post enc Tryz.prog Tryz.f3 false true false false):=by
 obtain⟨places,hx⟩:=reads os enc
 refine returnsInHanded_of_row (C:=Tryz.checked) (s:=OpenSpec.ofChange Rows.tradeoffBetweenSpec) own started ag Tryz.func3
  (witness_row_at (enc:=enc) (C:=Tryz.checked) false (By os) Jk rfl ag ag ag
   (OpenSpec.preRow_of_cond 8 hx ag (λk hk=>by cases hk) ag (WZ os))) ?_
 intro W base args ds gs before hval hW _ _ _ hL _ _;exact ZP H enc W base args ds gs before hval hW hL
theorem said:Rows.TradeoffBetweenSaid:=
 OpenClaim.holds_of_cond 3 Tryz.f3 rfl rfl rfl rfl rfl rfl rfl ⟨rfl,rfl,rfl,rfl,rfl⟩ rfl rfl rfl rfl rfl ag Tryz.func3 ag
  (of_decide_eq_true ag) (by unfold Func.isWrapper;first|(rw[if_pos aG];kernel_rfl)|(rw[if_neg aG];exact⟨rfl,rfl⟩))
  (λos started H enc _ F=>by rw[OpenClaim.pre_eq_preRow];exact lifted os started H enc F)
theorem plain (f:FuncId) (fn:Func) (hf:Tryz.pinned.checked.prog.funcNamed "schisma/schismalaw28.TradeoffBetween" = some f) (hfn:Tryz.pinned.checked.prog.funcs[f]?=some fn) :
  true=Tryz.pinned.checked.prog.looks []∧∀(j:Nat) t,fn.params[j]?=some t→Tryz.pinned.checked.prog.wantsStandIn t=false:=by
 obtain rfl:f=3:=Option.some.inj ((show Tryz.prog.funcNamed "schisma/schismalaw28.TradeoffBetween" = some 3 by kernel_rfl).symm.trans hf) |>.symm
 obtain rfl:fn=Tryz.f3:=(Option.some.inj (Tryz.func3.symm.trans hfn)).symm;refine⟨ag,λj t ht=>?_⟩;rw[Tryz.params3]at ht;have hm:t ∈ [24,25]:=by simpa using Array.mem_of_getElem? ht
 simp only[Zy,Yv,or_false]at hm;rcases hm with rfl|rfl
 .exact(show Tryz.prog.wantsStandIn 24=false by kernel_rfl)
 .exact(show Tryz.prog.wantsStandIn 25=false by kernel_rfl)
theorem card:Rows.TradeoffBetweenCardSaid:=
 Claim7.holds_tied_plain_at .later [] _ _ _ _ said (λ_ h=>by cases h) ag (λ_ h=>by cases h) tradeoffBetween_row_tie rfl ⟨rfl,rfl⟩ ag rfl plain ag
end Go.Proofs.YtnomjjmegfhkhaaGreatDoor.tradeoffBetween
