/- Lemmas. -/
import Derived.Test.YtbjigngcncfhmaaGreatDoorQDatS
set_option linter.unusedVariables false
set_option linter.unusedSimpArgs false
namespace Go.Proofs.YtbjigngcncfhmaaGreatDoor.damageTunings
open Go Go.Am Go.Vm Go.ChangeShapes Go.WideShapes Go.ChangeAt Go.RowKit
theorem own:ownKnob Tryz.prog.godebug=none:=ag
theorem laidOut:laidOutB Tryz.prog=true:=ag
theorem results:Tryz.f3.resultTypes = #[4]:=ag
theorem pow{W:World}(h:laidMetH Tryz.prog Rows.damageTuningsRow.laid W):QC W:=
 ac6 ahw VY acD acC XG XH (l:=Rows.damageTuningsRow.laid) (.tail _ (.tail _ (.head _))) h
theorem aeF:Typ Tryz.prog (TG) 32:=AP ag
theorem aeE:Typ Tryz.prog (ae0) 35:=AP ag
theorem aeG:Typ Tryz.prog (.int .i8) 25:=AP ag
theorem abb:Tryz.prog.cellsOf 25=1:=ag
set_option maxRecDepth 20000 in
theorem XD(H:Type)(enc:TypeId×Value->H)(W:World)(base:Nat)(args:Array Value)(ds gs:List (DataW H))(before:List MemPlace)
  (hval:∀(j:Nat) t v,Tryz.f3.params[j]?=some t->args[j]?=some v->Value.okWide Tryz.prog W .any base t v)
  (hW:DataW.Whole enc Tryz.prog Tryz.f3.params.toList Rows.damageTuningsSpec.vars false W args.toList ds gs before) (hL:laidMetH Tryz.prog Rows.damageTuningsRow.laid W) :
  Calls Tryz.prog 3 args W λe W'=>∃v,e=.returned v∧Rows.damageTuningsSpec.post enc Tryz.prog Tryz.f3 false true false false W args v W':=by
 have hW':=hW;obtain⟨p,q,hA0,hV,rfl,hfz,hnd⟩:=hW;have hA:DataW.TrodAll enc Tryz.prog W 0 (λ_=>true) true Tryz.f3.params.toList args.toList ds p:=hA0;rw[Tryz.params3]at hA hval;obtain⟨v0,vs0,d0,ds0,p0,q0,hargs,rfl,rfl,h0,r0⟩:=trodAll_cons hA;obtain⟨v1,vs1,d1,ds1,p1,q1,rfl,rfl,rfl,h1,r1⟩:=trodAll_cons r0;obtain⟨v2,vs2,d2,ds2,p2,q2,rfl,rfl,rfl,h2,r2⟩:=trodAll_cons r1
 obtain⟨rfl,rfl,rfl⟩:=trodAll_nil r2;obtain rfl:args = #[v0,v1,v2]:=by cases args;simp_all
 obtain⟨rfl,rfl⟩:=trodVars_none hV;obtain⟨f0,t0⟩:=h0;obtain⟨f1,t1⟩:=h1;obtain⟨f2,t2⟩:=h2;obtain⟨D0,e0,w0⟩:=OC aeF t0 (Ei Tryz.underlying32 (hval 0 32 v0 ac ac));obtain⟨D1,e1,w1⟩:=OC aeE t1 (Ei Tryz.underlying35 (hval 1 35 v1 ac ac))
 obtain⟨D2,e2,w2⟩:=acy aeG abb t2 (by intro cs e;have h:=hval 2 25 v2 ac ac;rw[e]at h;simp only[Value.okWide,Tryz.underlying25,Cell.okWide,Cell.ok]at h);obtain⟨k,e,v,gs,hk,hb,hg,r0⟩:=WS e0;obtain⟨x,a,b,hx,ha,hbb,r1⟩:=adV e1;obtain⟨n,hby,rfl⟩:=adW e2
 have hc:=JU (rs:=[.many D0,.many D1,.one (.int .i8 n)]) (vs:=[v0,v1,v2]) (w:=W) ((by have:=Jv (vals:=v) hk hb hg hx ha hbb hby;rw[<-r0,<-r1]at this;exact this)) ⟨_,_,rfl,w0,_,_,rfl,w1,_,_,rfl,w2,rfl⟩ (pow hL);refine hc.mono λe W' ⟨he,hk⟩=>?_
 subst he;have hlt:=hW'.lt
 have hargs':∀sp:Nat->Bool,(∀x∈(p0++(p1++(p2++[])))++[],sp x.block=true)->DataW.TrodAll enc Tryz.prog W' 0 sp true Tryz.f3.params.toList [v0,v1,v2] [d0,d1,d2] (p0++(p1++(p2++[]))):=λsp hsp=>
  zd laidOut hk (by rw[Tryz.params3];intro t ht;simp only[Zu,Y1,or_false]at ht;rcases ht with rfl|rfl|rfl<;>exact⟨ag,of_decide_eq_true ag⟩) hA0 (λx hx=>hlt x (by simpa using hx)) (λx hx=>hsp x (by simpa using hx))
 exact⟨_,rfl,Rf (pa:=p0++(p1++(p2++[]))) (pv:=[]) hW' (λ_ _ _=>by rw[results];exact trodAll_cons_mk (shut_bool Tryz.underlying4 _) trodAll_mk0) hargs' (λ_ _=>rfl) rfl hk (ok_one results rfl (okWide_bool_mk Tryz.underlying4 _))⟩
abbrev I8:Array Value:=#[.agg #[.int .u8 0,.slice none 0 0,.bool false,.int .i8 0,.int .u8 0,.int .i8 0,.int .u8 0,.int .i8 0,.int .u8 0,.int .i8 0,.int .u8 0,.int .i8 0,.int .u8 0,.int .i8 0,.int .u8 0,.int .i8 0,.int .u8 0,.int .i8 0,.int .u8 0,.int .i8 0,.int .u8 0,.int .i8 0,.int .u8 0,.int .i8 0,.int .u8 0,.int .i8 0,.int .u8 0,.int .i8 0,.int .u8 0,.int .i8 0,.int .u8 0,.int .i8 0,.int .u8 0,.int .i8 0,.int .u8 0],.agg #[.int .i8 0,.int .i8 0,.int .i8 0,.int .i8 0,.int .i8 0,.int .u8 0],.int .i8 0]
theorem VG(os:Os):laidMet Tryz.prog Rows.damageTuningsRow.laid ((By os).forCall (λ_ _=>0) ⟨#[],I8,[]⟩).memory:=
 laidMet_of_run' 8 ag ag
theorem reads(os:Os){H:Type}(enc:TypeId×Value->H):∃places,DataW.whole enc Tryz.prog ((By os).forCall (λ_ _=>0) ⟨#[],I8,[]⟩).memory Tryz.f3.params.toList Rows.damageTuningsSpec.vars false I8.toList 8=some ([.agg [.agg [.lit (.int .u8 0),.nil,.lit (.bool false)],.agg [.agg [.agg [.lit (.int .i8 0),.lit (.int .u8 0)],.agg [.lit (.int .i8 0),.lit (.int .u8 0)],.agg [.lit (.int .i8 0),.lit (.int .u8 0)],.agg [.lit (.int .i8 0),.lit (.int .u8 0)]],.agg [.agg [.lit (.int .i8 0),.lit (.int .u8 0)],.agg [.lit (.int .i8 0),.lit (.int .u8 0)],.agg [.lit (.int .i8 0),.lit (.int .u8 0)],.agg [.lit (.int .i8 0),.lit (.int .u8 0)]],.agg [.agg [.lit (.int .i8 0),.lit (.int .u8 0)],.agg [.lit (.int .i8 0),.lit (.int .u8 0)],.agg [.lit (.int .i8 0),.lit (.int .u8 0)],.agg [.lit (.int .i8 0),.lit (.int .u8 0)]],.agg [.agg [.lit (.int .i8 0),.lit (.int .u8 0)],.agg [.lit (.int .i8 0),.lit (.int .u8 0)],.agg [.lit (.int .i8 0),.lit (.int .u8 0)],.agg [.lit (.int .i8 0),.lit (.int .u8 0)]]]],.agg [.agg [.lit (.int .i8 0),.lit (.int .i8 0),.lit (.int .i8 0),.lit (.int .i8 0)],.agg [.lit (.int .i8 0),.lit (.int .u8 0)]],.lit (.int .i8 0)],[],places):=
 ⟨[],ag⟩
set_option maxRecDepth 100000 in
theorem lifted(os:Os)(started:os.Started)(H:Type)(enc:TypeId×Value->H)(F:Stop.Interp) :
  ReturnsInHanded {} Tryz.checked os 3 .any ((OpenSpec.ofChange Rows.damageTuningsSpec).preRow enc Tryz.prog Tryz.f3 Rows.damageTuningsRow.domain false Rows.damageTuningsRow.laid) (((OpenSpec.ofChange Rows.damageTuningsSpec).at F).post enc Tryz.prog Tryz.f3 false true false false):=by
 obtain⟨places,hx⟩:=reads os enc
 refine returnsInHanded_of_row (C:=Tryz.checked) (s:=OpenSpec.ofChange Rows.damageTuningsSpec) own started ag Tryz.func3
  (witness_row_at (enc:=enc) (C:=Tryz.checked) false (By os) I8 rfl ag ag ag
   (OpenSpec.preRow_of_cond 8 hx ag (λk hk=>by cases hk) ag (VG os))) ?_
 intro W base args ds gs before hval hW _ _ _ hL _ _;exact XD H enc W base args ds gs before hval hW hL
theorem said:Rows.DamageTuningsSaid:=
 OpenClaim.holds_of_cond 3 Tryz.f3 rfl rfl rfl rfl rfl rfl rfl ⟨rfl,rfl,rfl,rfl,rfl⟩ rfl rfl rfl rfl rfl ag Tryz.func3 ag
  (of_decide_eq_true ag) (by unfold Func.isWrapper;first|(rw[if_pos aR];kernel_rfl)|(rw[if_neg aR];exact⟨rfl,rfl⟩))
  (λos started H enc _ F=>by rw[OpenClaim.pre_eq_preRow];exact lifted os started H enc F)
theorem plain (f:FuncId) (fn:Func) (hf:Tryz.pinned.checked.prog.funcNamed "schisma/schismalaw25.DamageTunings" = some f) (hfn:Tryz.pinned.checked.prog.funcs[f]?=some fn) :
  true=Tryz.pinned.checked.prog.looks []∧∀(j:Nat) t,fn.params[j]?=some t→Tryz.pinned.checked.prog.wantsStandIn t=false:=by
 obtain rfl:f=3:=Option.some.inj ((show Tryz.prog.funcNamed "schisma/schismalaw25.DamageTunings" = some 3 by kernel_rfl).symm.trans hf) |>.symm
 obtain rfl:fn=Tryz.f3:=(Option.some.inj (Tryz.func3.symm.trans hfn)).symm;refine⟨ag,λj t ht=>?_⟩;rw[Tryz.params3]at ht;have hm:t ∈ [32,35,25]:=by simpa using Array.mem_of_getElem? ht
 simp only[Zu,Y1,or_false]at hm;rcases hm with rfl|rfl|rfl
 .exact(show Tryz.prog.wantsStandIn 32=false by kernel_rfl)
 .exact(show Tryz.prog.wantsStandIn 35=false by kernel_rfl)
 .exact(show Tryz.prog.wantsStandIn 25=false by kernel_rfl)
theorem card:Rows.DamageTuningsCardSaid:=
 Claim7.holds_tied_plain_at .later [] _ _ _ _ said (λ_ h=>by cases h) ag (λ_ h=>by cases h) damageTunings_row_tie rfl ⟨rfl,rfl⟩ ag rfl plain ag
end Go.Proofs.YtbjigngcncfhmaaGreatDoor.damageTunings
