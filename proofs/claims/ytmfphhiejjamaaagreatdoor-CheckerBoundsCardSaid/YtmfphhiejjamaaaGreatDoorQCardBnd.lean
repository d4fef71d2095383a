/- Lemmas. -/
import Derived.Test.YtmfphhiejjamaaaGreatDoorQJoin
set_option linter.unusedVariables false
set_option linter.unusedSimpArgs false
namespace Go.Proofs.YtmfphhiejjamaaaGreatDoor.checkerBounds
open Go Go.Am Go.Vm Go.ChangeShapes Go.WideShapes Go.ChangeAt Go.RowKit
theorem own:ownKnob Tryz.prog.godebug=none:=ah
theorem laidOut:laidOutB Tryz.prog=true:=ah
theorem results:Tryz.f3.resultTypes = #[4]:=ah
theorem pow{W:World}(h:laidMetH Tryz.prog Rows.checkerBoundsRow.laid W):QU W:=
 adM aij VS ado adn XJ XM (l:=Rows.checkerBoundsRow.laid) (.tail _ (.tail _ (.head _))) h
theorem C9:Typ Tryz.prog (.st [.int .i64,.int .i64,.str]) 24:=Iz ah
theorem C8:Typ Tryz.prog (.int .u8) 5:=Iz ah
theorem cells5:Tryz.prog.cellsOf 5=1:=ah
set_option maxRecDepth 20000 in
theorem WZ(H:Type)(enc:TypeId×Value->H)(W:World)(base:Nat)(args:Array Value)(ds gs:List (DataW H))(before:List MemPlace)
  (hval:∀(j:Nat) t v,Tryz.f3.params[j]?=some t->args[j]?=some v->Value.okWide Tryz.prog W .any base t v)
  (hW:DataW.Whole enc Tryz.prog Tryz.f3.params.toList Rows.checkerBoundsSpec.vars false W args.toList ds gs before) (hL:laidMetH Tryz.prog Rows.checkerBoundsRow.laid W) :
  Calls Tryz.prog 3 args W fun e W'=>∃v,e=.returned v∧Rows.checkerBoundsSpec.post enc Tryz.prog Tryz.f3 false true false false W args v W':=by
 have hW':=hW;obtain⟨p,q,hA0,hV,rfl,hfz,hnd⟩:=hW;have hA:DataW.TrodAll enc Tryz.prog W 0 (fun _=>true) true Tryz.f3.params.toList args.toList ds p:=hA0;rw[Tryz.params3]at hA hval;obtain⟨v0,vs0,d0,ds0,p0,q0,hargs,rfl,rfl,h0,r0⟩:=trodAll_cons hA;obtain⟨v1,vs1,d1,ds1,p1,q1,rfl,rfl,rfl,h1,r1⟩:=trodAll_cons r0;obtain⟨v2,vs2,d2,ds2,p2,q2,rfl,rfl,rfl,h2,r2⟩:=trodAll_cons r1
 obtain⟨rfl,rfl,rfl⟩:=trodAll_nil r2;obtain rfl:args = #[v0,v1,v2]:=by cases args;simp_all
 obtain⟨rfl,rfl⟩:=trodVars_none hV;obtain⟨f0,t0⟩:=h0;obtain⟨f1,t1⟩:=h1;obtain⟨f2,t2⟩:=h2;obtain⟨D0,e0,w0⟩:=ZH C9 t0 (NA Tryz.underlying24 (hval 0 24 v0 af af));obtain⟨D1,e1,w1⟩:=zp C8 cells5 t1 (vH Tryz.underlying5 (hval 1 5 v1 af af));obtain⟨D2,e2,w2⟩:=zp C8 cells5 t2 (vH Tryz.underlying5 (hval 2 5 v2 af af))
 obtain⟨p,b,l,rfl⟩:=xo e0;obtain⟨x,hx,rfl⟩:=Ai e1;obtain⟨y,hy,rfl⟩:=Ai e2;have hc:=JP (rs:=[.many [di p,di b,.str l],.one (.int .u8 x),.one (.int .u8 y)]) (vs:=[v0,v1,v2]) (w:=W) (vG p b l hx hy) ⟨_,_,rfl,w0,_,_,rfl,w1,_,_,rfl,w2,rfl⟩ (pow hL);refine hc.mono fun e W' ⟨he,hk⟩=>?_
 subst he;have hlt:=hW'.lt
 have hargs':∀sp:Nat->Bool,(∀x∈(p0++(p1++(p2++[])))++[],sp x.block=true)->DataW.TrodAll enc Tryz.prog W' 0 sp true Tryz.f3.params.toList [v0,v1,v2] [d0,d1,d2] (p0++(p1++(p2++[]))):=fun sp hsp=>
  zD laidOut hk (by rw[Tryz.params3];intro t ht;simp only[Zo,Ys,or_false]at ht;rcases ht with rfl|rfl|rfl<;>exact⟨ah,of_decide_eq_true ah⟩) hA0 (fun x hx=>hlt x (by simpa using hx)) (fun x hx=>hsp x (by simpa using hx))
 exact⟨_,rfl,Rv (pa:=p0++(p1++(p2++[]))) (pv:=[]) hW' (fun _ _ _=>by rw[results];exact trodAll_cons_mk (shut_bool Tryz.underlying4 _) trodAll_mk0) hargs' (fun _ _=>rfl) rfl hk (ok_one results rfl (okWide_bool_mk Tryz.underlying4 _))⟩
abbrev Jb:Array Value:=#[.agg #[.int .i64 0,.int .i64 0,.string ⟨#[]⟩],.int .u8 0,.int .u8 0]
theorem VF(os:Os):laidMet Tryz.prog Rows.checkerBoundsRow.laid ((BL os).forCall (fun _ _=>0) ⟨#[],Jb,[]⟩).memory:=
 laidMet_of_run' 8 ah ah
theorem reads(os:Os){H:Type}(enc:TypeId×Value->H):∃places,DataW.whole enc Tryz.prog ((BL os).forCall (fun _ _=>0) ⟨#[],Jb,[]⟩).memory Tryz.f3.params.toList Rows.checkerBoundsSpec.vars false Jb.toList 8=some ([.agg [.lit (.int .i64 0),.lit (.int .i64 0),.lit (.string [])],.lit (.int .u8 0),.lit (.int .u8 0)],[],places):=
 ⟨[],ah⟩
set_option maxRecDepth 100000 in
theorem lifted(os:Os)(started:os.Started)(H:Type)(enc:TypeId×Value->H)(F:Stop.Interp) :
  ReturnsInHanded {} Tryz.checked os 3 .any ((OpenSpec.ofChange Rows.checkerBoundsSpec).preRow enc Tryz.prog Tryz.f3 Rows.checkerBoundsRow.domain false Rows.checkerBoundsRow.laid) (((OpenSpec.ofChange Rows.checkerBoundsSpec).at F).post enc Tryz.prog Tryz.f3 false true false false):=by
 obtain⟨places,hx⟩:=reads os enc
 refine returnsInHanded_of_row (C:=Tryz.checked) (s:=OpenSpec.ofChange Rows.checkerBoundsSpec) own started ah Tryz.func3
  (witness_row_at (enc:=enc) (C:=Tryz.checked) false (BL os) Jb rfl ah ah ah
   (OpenSpec.preRow_of_cond 8 hx ah (fun k hk=>by cases hk) ah (VF os))) ?_
 intro W base args ds gs before hval hW _ _ _ hL _ _;exact WZ H enc W base args ds gs before hval hW hL
theorem said:Rows.CheckerBoundsSaid:=
 OpenClaim.holds_of_cond 3 Tryz.f3 rfl rfl rfl rfl rfl rfl rfl ⟨rfl,rfl,rfl,rfl,rfl⟩ rfl rfl rfl rfl rfl ah Tryz.func3 ah
  (of_decide_eq_true ah) (by unfold Func.isWrapper;first|(rw[if_pos bb];kernel_rfl)|(rw[if_neg bb];exact⟨rfl,rfl⟩))
  (fun os started H enc _ F=>by rw[OpenClaim.pre_eq_preRow];exact lifted os started H enc F)
theorem plain (f:FuncId) (fn:Func) (hf:Tryz.pinned.checked.prog.funcNamed "schisma/schismalaw55.CheckerBounds" = some f) (hfn:Tryz.pinned.checked.prog.funcs[f]?=some fn) :
  true=Tryz.pinned.checked.prog.looks []∧∀(j:Nat) t,fn.params[j]?=some t→Tryz.pinned.checked.prog.wantsStandIn t=false:=by
 obtain rfl:f=3:=Option.some.inj ((show Tryz.prog.funcNamed "schisma/schismalaw55.CheckerBounds" = some 3 by kernel_rfl).symm.trans hf) |>.symm
 obtain rfl:fn=Tryz.f3:=(Option.some.inj (Tryz.func3.symm.trans hfn)).symm;refine⟨ah,fun j t ht=>?_⟩;rw[Tryz.params3]at ht;have hm:t ∈ [24,5,5]:=by simpa using Array.mem_of_getElem? ht
 simp only[Zo,Ys,or_false]at hm;rcases hm with rfl|rfl|rfl
 .exact(show Tryz.prog.wantsStandIn 24=false by kernel_rfl)
 .exact(show Tryz.prog.wantsStandIn 5=false by kernel_rfl)
 .exact(show Tryz.prog.wantsStandIn 5=false by kernel_rfl)
theorem card:Rows.CheckerBoundsCardSaid:=
 Claim7.holds_tied_plain_at .later [] _ _ _ _ said (fun _ h=>by cases h) ah (fun _ h=>by cases h) checkerBounds_row_tie rfl ⟨rfl,rfl⟩ ah rfl plain ah
end Go.Proofs.YtmfphhiejjamaaaGreatDoor.checkerBounds
