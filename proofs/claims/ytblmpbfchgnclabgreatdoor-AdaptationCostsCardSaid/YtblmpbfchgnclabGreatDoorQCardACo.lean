/- Lemmas. -/
import Derived.Test.YtblmpbfchgnclabGreatDoorQAbL
set_option linter.unusedVariables false
set_option linter.unusedSimpArgs false
namespace Go.Proofs.YtblmpbfchgnclabGreatDoor.adaptationCosts
open Go Go.Am Go.Vm Go.ChangeShapes Go.WideShapes Go.ChangeAt Go.RowKit
theorem own:ownKnob Tryz.prog.godebug=none:=ah
theorem laidOut:laidOutB Tryz.prog=true:=ah
theorem results:Tryz.f3.resultTypes = #[4]:=ah
theorem pow{W:World}(h:laidMetH Tryz.prog Rows.adaptationCostsRow.laid W):QU W:=
 adM aij VS ado adn XJ XM (l:=Rows.adaptationCostsRow.laid) (.tail _ (.tail _ (.head _))) h
theorem afg:Typ Tryz.prog (Tv) 35:=Iz ah
theorem wJ:Typ Tryz.prog (.int .i64) 3:=Iz ah
theorem cells3:Tryz.prog.cellsOf 3=1:=ah
theorem vH:Typ Tryz.prog (oV) 37:=Iz ah
set_option maxRecDepth 20000 in
theorem WZ(H:Type)(enc:TypeId×Value->H)(W:World)(base:Nat)(args:Array Value)(ds gs:List (DataW H))(before:List MemPlace)
  (hval:∀(j:Nat) t v,Tryz.f3.params[j]?=some t->args[j]?=some v->Value.okWide Tryz.prog W .any base t v)
  (hW:DataW.Whole enc Tryz.prog Tryz.f3.params.toList Rows.adaptationCostsSpec.vars false W args.toList ds gs before) (hL:laidMetH Tryz.prog Rows.adaptationCostsRow.laid W) :
  Calls Tryz.prog 3 args W fun e W'=>∃v,e=.returned v∧Rows.adaptationCostsSpec.post enc Tryz.prog Tryz.f3 false true false false W args v W':=by
 have hW':=hW;obtain⟨p,q,hA0,hV,rfl,hfz,hnd⟩:=hW;have hA:DataW.TrodAll enc Tryz.prog W 0 (fun _=>true) true Tryz.f3.params.toList args.toList ds p:=hA0;rw[Tryz.params3]at hA hval;obtain⟨v0,vs0,d0,ds0,p0,q0,hargs,rfl,rfl,h0,r0⟩:=trodAll_cons hA;obtain⟨v1,vs1,d1,ds1,p1,q1,rfl,rfl,rfl,h1,r1⟩:=trodAll_cons r0;obtain⟨v2,vs2,d2,ds2,p2,q2,rfl,rfl,rfl,h2,r2⟩:=trodAll_cons r1
 obtain⟨rfl,rfl,rfl⟩:=trodAll_nil r2;obtain rfl:args = #[v0,v1,v2]:=by cases args;simp_all
 obtain⟨rfl,rfl⟩:=trodVars_none hV;obtain⟨f0,t0⟩:=h0;obtain⟨f1,t1⟩:=h1;obtain⟨f2,t2⟩:=h2;obtain⟨D0,e0,w0⟩:=ZH afg t0 (NA Tryz.underlying35 (hval 0 35 v0 af af));obtain⟨D1,e1,w1⟩:=vf wJ cells3 t1 (qI Tryz.underlying3 (hval 1 3 v1 af af));obtain⟨D2,e2,w2⟩:=ZH vH t2 (NA Tryz.underlying37 (hval 2 37 v2 af af))
 obtain⟨f,hf,r0⟩:=WU e0;obtain⟨n,hn,rfl⟩:=rH e1;obtain⟨x,y,rfl,hx,hy⟩:=qU e2;have hc:=JP (rs:=[.many D0,.one (di n),.many [di x,di y]]) (vs:=[v0,v1,v2]) (w:=W) (by have:=ov hf hn (x:=x) (y:=y);rw[<-r0]at this;exact this) ⟨_,_,rfl,w0,_,_,rfl,w1,_,_,rfl,w2,rfl⟩ (pow hL);refine hc.mono fun e W' ⟨he,hk⟩=>?_
 subst he;have hlt:=hW'.lt
 have hargs':∀sp:Nat->Bool,(∀x∈(p0++(p1++(p2++[])))++[],sp x.block=true)->DataW.TrodAll enc Tryz.prog W' 0 sp true Tryz.f3.params.toList [v0,v1,v2] [d0,d1,d2] (p0++(p1++(p2++[]))):=fun sp hsp=>
  zD laidOut hk (by rw[Tryz.params3];intro t ht;simp only[Zo,Ys,or_false]at ht;rcases ht with rfl|rfl|rfl<;>exact⟨ah,of_decide_eq_true ah⟩) hA0 (fun x hx=>hlt x (by simpa using hx)) (fun x hx=>hsp x (by simpa using hx))
 exact⟨_,rfl,Rv (pa:=p0++(p1++(p2++[]))) (pv:=[]) hW' (fun _ _ _=>by rw[results];exact trodAll_cons_mk (shut_bool Tryz.underlying4 _) trodAll_mk0) hargs' (fun _ _=>rfl) rfl hk (ok_one results rfl (okWide_bool_mk Tryz.underlying4 _))⟩
abbrev Jb:Array Value:=#[.agg (Array.replicate 6 (.int .u8 0)++Array.replicate 45 (.int .i8 0)++Array.replicate 22 (.int .u8 0)++Array.replicate 46 (.int .i8 0)++Array.replicate 1 (.int .u8 0)),.int .i64 0,.agg #[.int .i64 0,.int .i64 0]]
theorem VF(os:Os):laidMet Tryz.prog Rows.adaptationCostsRow.laid ((BL os).forCall (fun _ _=>0) ⟨#[],Jb,[]⟩).memory:=
 laidMet_of_run' 8 ah ah
theorem reads(os:Os){H:Type}(enc:TypeId×Value->H):∃places,DataW.whole enc Tryz.prog ((BL os).forCall (fun _ _=>0) ⟨#[],Jb,[]⟩).memory Tryz.f3.params.toList Rows.adaptationCostsSpec.vars false Jb.toList 8=some ([.agg [.agg [.lit (.int .u8 0),.agg [.lit (.int .u8 0),.lit (.int .u8 0),.lit (.int .u8 0),.lit (.int .u8 0),.lit (.int .u8 0)],.agg [.agg [.agg [.lit (.int .i8 0),.lit (.int .i8 0),.lit (.int .i8 0)],.agg [.lit (.int .i8 0),.lit (.int .i8 0),.lit (.int .i8 0)],.agg [.lit (.int .i8 0),.lit (.int .i8 0),.lit (.int .i8 0)]],.agg [.agg [.lit (.int .i8 0),.lit (.int .i8 0),.lit (.int .i8 0)],.agg [.lit (.int .i8 0),.lit (.int .i8 0),.lit (.int .i8 0)],.agg [.lit (.int .i8 0),.lit (.int .i8 0),.lit (.int .i8 0)]],.agg [.agg [.lit (.int .i8 0),.lit (.int .i8 0),.lit (.int .i8 0)],.agg [.lit (.int .i8 0),.lit (.int .i8 0),.lit (.int .i8 0)],.agg [.lit (.int .i8 0),.lit (.int .i8 0),.lit (.int .i8 0)]],.agg [.agg [.lit (.int .i8 0),.lit (.int .i8 0),.lit (.int .i8 0)],.agg [.lit (.int .i8 0),.lit (.int .i8 0),.lit (.int .i8 0)],.agg [.lit (.int .i8 0),.lit (.int .i8 0),.lit (.int .i8 0)]],.agg [.agg [.lit (.int .i8 0),.lit (.int .i8 0),.lit (.int .i8 0)],.agg [.lit (.int .i8 0),.lit (.int .i8 0),.lit (.int .i8 0)],.agg [.lit (.int .i8 0),.lit (.int .i8 0),.lit (.int .i8 0)]]],.agg [.agg [.agg [.lit (.int .u8 0),.lit (.int .u8 0)],.agg [.lit (.int .u8 0),.lit (.int .u8 0)]],.agg [.agg [.lit (.int .u8 0),.lit (.int .u8 0)],.agg [.lit (.int .u8 0),.lit (.int .u8 0)]],.agg [.agg [.lit (.int .u8 0),.lit (.int .u8 0)],.agg [.lit (.int .u8 0),.lit (.int .u8 0)]],.agg [.agg [.lit (.int .u8 0),.lit (.int .u8 0)],.agg [.lit (.int .u8 0),.lit (.int .u8 0)]]],.lit (.int .u8 0)],.agg [.lit (.int .u8 0),.lit (.int .u8 0),.lit (.int .u8 0),.lit (.int .u8 0),.lit (.int .u8 0)],.agg [.agg [.agg [.lit (.int .i8 0),.lit (.int .i8 0),.lit (.int .i8 0)],.agg [.lit (.int .i8 0),.lit (.int .i8 0),.lit (.int .i8 0)],.agg [.lit (.int .i8 0),.lit (.int .i8 0),.lit (.int .i8 0)]],.agg [.agg [.lit (.int .i8 0),.lit (.int .i8 0),.lit (.int .i8 0)],.agg [.lit (.int .i8 0),.lit (.int .i8 0),.lit (.int .i8 0)],.agg [.lit (.int .i8 0),.lit (.int .i8 0),.lit (.int .i8 0)]],.agg [.agg [.lit (.int .i8 0),.lit (.int .i8 0),.lit (.int .i8 0)],.agg [.lit (.int .i8 0),.lit (.int .i8 0),.lit (.int .i8 0)],.agg [.lit (.int .i8 0),.lit (.int .i8 0),.lit (.int .i8 0)]],.agg [.agg [.lit (.int .i8 0),.lit (.int .i8 0),.lit (.int .i8 0)],.agg [.lit (.int .i8 0),.lit (.int .i8 0),.lit (.int .i8 0)],.agg [.lit (.int .i8 0),.lit (.int .i8 0),.lit (.int .i8 0)]],.agg [.agg [.lit (.int .i8 0),.lit (.int .i8 0),.lit (.int .i8 0)],.agg [.lit (.int .i8 0),.lit (.int .i8 0),.lit (.int .i8 0)],.agg [.lit (.int .i8 0),.lit (.int .i8 0),.lit (.int .i8 0)]]],.agg [.lit (.int .i8 0),.lit (.int .u8 0)]],.lit (.int .i64 0),.agg [.lit (.int .i64 0),.lit (.int .i64 0)]],[],places):=
 ⟨[],ah⟩
set_option maxRecDepth 100000 in
theorem lifted(os:Os)(started:os.Started)(H:Type)(enc:TypeId×Value->H)(F:Stop.Interp) :
  ReturnsInHanded {} Tryz.checked os 3 .any ((OpenSpec.ofChange Rows.adaptationCostsSpec).preRow enc Tryz.prog Tryz.f3 Rows.adaptationCostsRow.domain false Rows.adaptationCostsRow.laid) (((OpenSpec.ofChange Rows.adaptationCostsSpec).at F).post enc Tryz.prog Tryz.f3 false true false false):=by
 obtain⟨places,hx⟩:=reads os enc
 refine returnsInHanded_of_row (C:=Tryz.checked) (s:=OpenSpec.ofChange Rows.adaptationCostsSpec) own started ah Tryz.func3
  (witness_row_at (enc:=enc) (C:=Tryz.checked) false (BL os) Jb rfl ah ah ah
   (OpenSpec.preRow_of_cond 8 hx ah (fun k hk=>by cases hk) ah (VF os))) ?_
 intro W base args ds gs before hval hW _ _ _ hL _ _;exact WZ H enc W base args ds gs before hval hW hL
theorem said:Rows.AdaptationCostsSaid:=
 OpenClaim.holds_of_cond 3 Tryz.f3 rfl rfl rfl rfl rfl rfl rfl ⟨rfl,rfl,rfl,rfl,rfl⟩ rfl rfl rfl rfl rfl ah Tryz.func3 ah
  (of_decide_eq_true ah) (by unfold Func.isWrapper;first|(rw[if_pos bb];kernel_rfl)|(rw[if_neg bb];exact⟨rfl,rfl⟩))
  (fun os started H enc _ F=>by rw[OpenClaim.pre_eq_preRow];exact lifted os started H enc F)
theorem plain (f:FuncId) (fn:Func) (hf:Tryz.pinned.checked.prog.funcNamed "schisma/schismalaw52.AdaptationCosts" = some f) (hfn:Tryz.pinned.checked.prog.funcs[f]?=some fn) :
  true=Tryz.pinned.checked.prog.looks []∧∀(j:Nat) t,fn.params[j]?=some t→Tryz.pinned.checked.prog.wantsStandIn t=false:=by
 obtain rfl:f=3:=Option.some.inj ((show Tryz.prog.funcNamed "schisma/schismalaw52.AdaptationCosts" = some 3 by kernel_rfl).symm.trans hf) |>.symm
 obtain rfl:fn=Tryz.f3:=(Option.some.inj (Tryz.func3.symm.trans hfn)).symm;refine⟨ah,fun j t ht=>?_⟩;rw[Tryz.params3]at ht;have hm:t ∈ [35,3,37]:=by simpa using Array.mem_of_getElem? ht
 simp only[Zo,Ys,or_false]at hm;rcases hm with rfl|rfl|rfl
 .exact(show Tryz.prog.wantsStandIn 35=false by kernel_rfl)
 .exact(show Tryz.prog.wantsStandIn 3=false by kernel_rfl)
 .exact(show Tryz.prog.wantsStandIn 37=false by kernel_rfl)
theorem card:Rows.AdaptationCostsCardSaid:=
 Claim7.holds_tied_plain_at .later [] _ _ _ _ said (fun _ h=>by cases h) ah (fun _ h=>by cases h) adaptationCosts_row_tie rfl ⟨rfl,rfl⟩ ah rfl plain ah
end Go.Proofs.YtblmpbfchgnclabGreatDoor.adaptationCosts
