/- Lemmas. -/
import Derived.Test.YtemefafdcbjanaaGreatDoorQJoin
set_option linter.unusedVariables false
set_option linter.unusedSimpArgs false
namespace Go.Proofs.YtemefafdcbjanaaGreatDoor.damageChecks
open Go Go.Am Go.Vm Go.ChangeShapes Go.WideShapes Go.ChangeAt Go.RowKit
theorem own:ownKnob Tryz.prog.godebug=none:=ag
theorem laidOut:laidOutB Tryz.prog=true:=ag
theorem results:Tryz.f3.resultTypes = #[4]:=ag
theorem pow{W:World}(h:laidMetH Tryz.prog Rows.damageChecksRow.laid W):Pm W:=
 abo agC Uz aa4 aa3 Vg Vh (l:=Rows.damageChecksRow.laid) (.tail _ (.tail _ (.head _))) h
theorem ac4:Typ Tryz.prog (FV) 23:=Cj ag
theorem ZE:Tryz.prog.cellsOf 23=1:=ag
theorem aal:Typ Tryz.prog (.sl (.st [FV,.st [.str,.str]])) 24:=Cj ag
theorem O7:Tryz.prog.cellsOf 24=1:=ag
set_option maxRecDepth 20000 in
theorem U9(H:Type)(enc:TypeId×Value->H)(W:World)(base:Nat)(args:Array Value)(ds gs:List (DataW H))(before:List MemPlace)
  (hval:∀(j:Nat) t v,Tryz.f3.params[j]?=some t->args[j]?=some v->Value.okWide Tryz.prog W .any base t v)
  (hW:DataW.Whole enc Tryz.prog Tryz.f3.params.toList Rows.damageChecksSpec.vars false W args.toList ds gs before) (hL:laidMetH Tryz.prog Rows.damageChecksRow.laid W) :
  Calls Tryz.prog 3 args W fun e W'=>∃v,e=.returned v∧Rows.damageChecksSpec.post enc Tryz.prog Tryz.f3 false true false false W args v W':=by
 have hW':=hW;obtain⟨p,q,hA0,hV,rfl,hfz,hnd⟩:=hW;have hA:DataW.TrodAll enc Tryz.prog W 0 (fun _=>true) true Tryz.f3.params.toList args.toList ds p:=hA0;rw[Tryz.params3]at hA hval;obtain⟨v0,vs0,d0,ds0,p0,q0,hargs,rfl,rfl,h0,r0⟩:=trodAll_cons hA;obtain⟨v1,vs1,d1,ds1,p1,q1,rfl,rfl,rfl,h1,r1⟩:=trodAll_cons r0;obtain⟨v2,vs2,d2,ds2,p2,q2,rfl,rfl,rfl,h2,r2⟩:=trodAll_cons r1
 obtain⟨rfl,rfl,rfl⟩:=trodAll_nil r2;obtain rfl:args = #[v0,v1,v2]:=by cases args;simp_all
 obtain⟨rfl,rfl⟩:=trodVars_none hV;obtain⟨f0,t0⟩:=h0;obtain⟨f1,t1⟩:=h1;obtain⟨f2,t2⟩:=h2;obtain⟨D0,e0,w0⟩:=LJ ac4 ZE t0 (xc Tryz.underlying23 (hval 0 23 v0 ae ae));obtain⟨D1,e1,w1⟩:=LJ aal O7 t1 (xc Tryz.underlying24 (hval 1 24 v1 ae ae))
 obtain⟨D2,e2,w2⟩:=LJ aal O7 t2 (xc Tryz.underlying24 (hval 2 24 v2 ae ae));obtain⟨v,rfl,hv⟩:=O3 e0;obtain⟨a,rfl⟩:=K3 e1;obtain⟨b,rfl⟩:=K3 e2
 have hc:=Im (rs:=[.one (row v),.one (.sl a.length (a.flatMap tgD)),.one (.sl b.length (b.flatMap tgD))]) (vs:=[v0,v1,v2]) (w:=W) ((Ku (p:=v) (a:=a) (b:=b))) ⟨_,_,rfl,w0,_,_,rfl,w1,_,_,rfl,w2,rfl⟩ (pow hL);refine hc.mono fun e W' ⟨he,hk⟩=>?_
 subst he;have hlt:=hW'.lt
 have hargs':∀sp:Nat->Bool,(∀x∈(p0++(p1++(p2++[])))++[],sp x.block=true)->DataW.TrodAll enc Tryz.prog W' 0 sp true Tryz.f3.params.toList [v0,v1,v2] [d0,d1,d2] (p0++(p1++(p2++[]))):=fun sp hsp=>
  xN laidOut hk (by rw[Tryz.params3];intro t ht;simp only[Zs,Ym,or_false]at ht;rcases ht with rfl|rfl|rfl<;>exact⟨ag,of_decide_eq_true ag⟩) hA0 (fun x hx=>hlt x (by simpa using hx)) (fun x hx=>hsp x (by simpa using hx))
 exact⟨_,rfl,P9 (pa:=p0++(p1++(p2++[]))) (pv:=[]) hW' (fun _ _ _=>by rw[results];exact trodAll_cons_mk (shut_bool Tryz.underlying4 _) trodAll_mk0) hargs' (fun _ _=>rfl) rfl hk (ok_one results rfl (okWide_bool_mk Tryz.underlying4 _))⟩
abbrev HA:Array Value:=#[.slice none 0 0,.slice none 0 0,.slice none 0 0]
theorem Um(os:Os):laidMet Tryz.prog Rows.damageChecksRow.laid ((zN os).forCall (fun _ _=>0) ⟨#[],HA,[]⟩).memory:=
 laidMet_of_run' 8 ag ag
theorem reads(os:Os){H:Type}(enc:TypeId×Value->H):∃places,DataW.whole enc Tryz.prog ((zN os).forCall (fun _ _=>0) ⟨#[],HA,[]⟩).memory Tryz.f3.params.toList Rows.damageChecksSpec.vars false HA.toList 8=some ([.nil,.nil,.nil],[],places):=
 ⟨[],ag⟩
set_option maxRecDepth 100000 in
theorem lifted(os:Os)(started:os.Started)(H:Type)(enc:TypeId×Value->H)(F:Stop.Interp) :
  ReturnsInHanded {} Tryz.checked os 3 .any ((OpenSpec.ofChange Rows.damageChecksSpec).preRow enc Tryz.prog Tryz.f3 Rows.damageChecksRow.domain false Rows.damageChecksRow.laid) (((OpenSpec.ofChange Rows.damageChecksSpec).at F).post enc Tryz.prog Tryz.f3 false true false false):=by
 obtain⟨places,hx⟩:=reads os enc
 refine returnsInHanded_of_row (C:=Tryz.checked) (s:=OpenSpec.ofChange Rows.damageChecksSpec) own started ag Tryz.func3
  (witness_row_at (enc:=enc) (C:=Tryz.checked) false (zN os) HA rfl ag ag ag
   (OpenSpec.preRow_of_cond 8 hx ag (fun k hk=>by cases hk) ag (Um os))) ?_
 intro W base args ds gs before hval hW _ _ _ hL _ _;exact U9 H enc W base args ds gs before hval hW hL
theorem said:Rows.DamageChecksSaid:=
 OpenClaim.holds_of_cond 3 Tryz.f3 rfl rfl rfl rfl rfl rfl rfl ⟨rfl,rfl,rfl,rfl,rfl⟩ rfl rfl rfl rfl rfl ag Tryz.func3 ag
  (of_decide_eq_true ag) (by unfold Func.isWrapper;first|(rw[if_pos aF];kernel_rfl)|(rw[if_neg aF];exact⟨rfl,rfl⟩))
  (fun os started H enc _ F=>by rw[OpenClaim.pre_eq_preRow];exact lifted os started H enc F)
theorem plain (f:FuncId) (fn:Func) (hf:Tryz.pinned.checked.prog.funcNamed "schisma/schismalaw25.DamageChecks" = some f) (hfn:Tryz.pinned.checked.prog.funcs[f]?=some fn) :
  true=Tryz.pinned.checked.prog.looks []∧∀(j:Nat) t,fn.params[j]?=some t→Tryz.pinned.checked.prog.wantsStandIn t=false:=by
 obtain rfl:f=3:=Option.some.inj ((show Tryz.prog.funcNamed "schisma/schismalaw25.DamageChecks" = some 3 by kernel_rfl).symm.trans hf) |>.symm
 obtain rfl:fn=Tryz.f3:=(Option.some.inj (Tryz.func3.symm.trans hfn)).symm;refine⟨ag,fun j t ht=>?_⟩;rw[Tryz.params3]at ht;have hm:t ∈ [23,24,24]:=by simpa using Array.mem_of_getElem? ht
 simp only[Zs,Ym,or_false]at hm;rcases hm with rfl|rfl|rfl
 .exact(show Tryz.prog.wantsStandIn 23=false by kernel_rfl)
 .exact(show Tryz.prog.wantsStandIn 24=false by kernel_rfl)
 .exact(show Tryz.prog.wantsStandIn 24=false by kernel_rfl)
theorem card:Rows.DamageChecksCardSaid:=
 Claim7.holds_tied_plain_at .later [] _ _ _ _ said (fun _ h=>by cases h) ag (fun _ h=>by cases h) damageChecks_row_tie rfl ⟨rfl,rfl⟩ ag rfl plain ag
end Go.Proofs.YtemefafdcbjanaaGreatDoor.damageChecks
