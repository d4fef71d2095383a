/- Lemmas. -/
import Derived.Test.YtgcaaigeilmbaabGreatDoorQJoin
set_option linter.unusedVariables false
set_option linter.unusedSimpArgs false
namespace Go.Proofs.YtgcaaigeilmbaabGreatDoor.checkerSigns
open Go Go.Am Go.Vm Go.ChangeShapes Go.WideShapes Go.ChangeAt Go.RowKit
theorem own:ownKnob Tryz.prog.godebug=none:=au
theorem laidOut:laidOutB Tryz.prog=true:=au
theorem results:Tryz.f3.resultTypes = #[4]:=au
theorem pow{W:World}(h:laidMetH Tryz.prog Rows.checkerSignsRow.laid W):Pd W:=
 aau afh Tm aad aac Ue Uf (l:=Rows.checkerSignsRow.laid) (.tail _ (.tail _ (.head _))) h
theorem abZ:Typ Tryz.prog (YT) 23:=Av au
theorem XO:Tryz.prog.cellsOf 23=1:=au
theorem abY:Typ Tryz.prog (.sl (.st [.str,.str])) 25:=Av au
theorem XN:Tryz.prog.cellsOf 25=1:=au
theorem abX:Typ Tryz.prog (.st [.int .u8,.int .u8,.int .u8]) 27:=Av au
set_option maxRecDepth 20000 in
theorem T9(H:Type)(enc:TypeId×Value->H)(W:World)(base:Nat)(args:Array Value)(ds gs:List (DataW H))(before:List MemPlace)
  (hval:∀(j:Nat) t v,Tryz.f3.params[j]?=some t->args[j]?=some v->Value.okWide Tryz.prog W .any base t v)
  (hW:DataW.Whole enc Tryz.prog Tryz.f3.params.toList Rows.checkerSignsSpec.vars false W args.toList ds gs before) (hL:laidMetH Tryz.prog Rows.checkerSignsRow.laid W) :
  Calls Tryz.prog 3 args W fun e W'=>∃v,e=.returned v∧Rows.checkerSignsSpec.post enc Tryz.prog Tryz.f3 false true false false W args v W':=by
 have hW':=hW;obtain⟨p,q,hA0,hV,rfl,hfz,hnd⟩:=hW;have hA:DataW.TrodAll enc Tryz.prog W 0 (fun _=>true) true Tryz.f3.params.toList args.toList ds p:=hA0;rw[Tryz.params3]at hA hval;obtain⟨v0,vs0,d0,ds0,p0,q0,hargs,rfl,rfl,h0,r0⟩:=trodAll_cons hA;obtain⟨v1,vs1,d1,ds1,p1,q1,rfl,rfl,rfl,h1,r1⟩:=trodAll_cons r0;obtain⟨v2,vs2,d2,ds2,p2,q2,rfl,rfl,rfl,h2,r2⟩:=trodAll_cons r1
 obtain⟨rfl,rfl,rfl⟩:=trodAll_nil r2;obtain rfl:args = #[v0,v1,v2]:=by cases args;simp_all
 obtain⟨rfl,rfl⟩:=trodVars_none hV;obtain⟨f0,t0⟩:=h0;obtain⟨f1,t1⟩:=h1;obtain⟨f2,t2⟩:=h2;obtain⟨D0,e0,w0⟩:=QR abZ XO t0 (DK Tryz.underlying23 (hval 0 23 v0 af af));obtain⟨D1,e1,w1⟩:=QR abY XN t1 (DK Tryz.underlying25 (hval 1 25 v1 af af))
 obtain⟨D2,e2,w2⟩:=UL abX t2 (Mi Tryz.underlying27 (hval 2 27 v2 af af));obtain⟨l,rfl,hl⟩:=XB e0;obtain⟨s,rfl⟩:=XA e1;obtain⟨x,y,z,rfl,hx,hy,hz⟩:=T4 e2
 have hc:=IV (rs:=[.one (row l),.one (.sl s.length (s.flatMap fi)),.many [.int .u8 x,.int .u8 y,.int .u8 z]]) (vs:=[v0,v1,v2]) (w:=W) ((P9 UE l s hx hy hz)) ⟨_,_,rfl,w0,_,_,rfl,w1,_,_,rfl,w2,rfl⟩ (pow hL);refine hc.mono fun e W' ⟨he,hk⟩=>?_
 subst he;have hlt:=hW'.lt
 have hargs':∀sp:Nat->Bool,(∀x∈(p0++(p1++(p2++[])))++[],sp x.block=true)->DataW.TrodAll enc Tryz.prog W' 0 sp true Tryz.f3.params.toList [v0,v1,v2] [d0,d1,d2] (p0++(p1++(p2++[]))):=fun sp hsp=>
  yV laidOut hk (by rw[Tryz.params3];intro t ht;simp only[Zc,Yc,or_false]at ht;rcases ht with rfl|rfl|rfl<;>exact⟨au,of_decide_eq_true au⟩) hA0 (fun x hx=>hlt x (by simpa using hx)) (fun x hx=>hsp x (by simpa using hx))
 exact⟨_,rfl,PR (pa:=p0++(p1++(p2++[]))) (pv:=[]) hW' (fun _ _ _=>by rw[results];exact trodAll_cons_mk (shut_bool Tryz.underlying4 _) trodAll_mk0) hargs' (fun _ _=>rfl) rfl hk (ok_one results rfl (okWide_bool_mk Tryz.underlying4 _))⟩
abbrev Ib:Array Value:=#[.slice none 0 0,.slice none 0 0,.agg #[.int .u8 0,.int .u8 0,.int .u8 0]]
theorem S9(os:Os):laidMet Tryz.prog Rows.checkerSignsRow.laid ((A7 os).forCall (fun _ _=>0) ⟨#[],Ib,[]⟩).memory:=
 laidMet_of_run' 8 au au
theorem reads(os:Os){H:Type}(enc:TypeId×Value->H):∃places,DataW.whole enc Tryz.prog ((A7 os).forCall (fun _ _=>0) ⟨#[],Ib,[]⟩).memory Tryz.f3.params.toList Rows.checkerSignsSpec.vars false Ib.toList 8=some ([.nil,.nil,.agg [.lit (.int .u8 0),.lit (.int .u8 0),.lit (.int .u8 0)]],[],places):=
 ⟨[],au⟩
set_option maxRecDepth 100000 in
theorem lifted(os:Os)(started:os.Started)(H:Type)(enc:TypeId×Value->H)(F:Stop.Interp) :
  ReturnsInHanded {} Tryz.checked os 3 .any ((OpenSpec.ofChange Rows.checkerSignsSpec).preRow enc Tryz.prog Tryz.f3 Rows.checkerSignsRow.domain false Rows.checkerSignsRow.laid) (((OpenSpec.ofChange Rows.checkerSignsSpec).at F).post enc Tryz.prog Tryz.f3 false true false false):=by
 obtain⟨places,hx⟩:=reads os enc
 refine returnsInHanded_of_row (C:=Tryz.checked) (s:=OpenSpec.ofChange Rows.checkerSignsSpec) own started au Tryz.func3
  (witness_row_at (enc:=enc) (C:=Tryz.checked) false (A7 os) Ib rfl au au au
   (OpenSpec.preRow_of_cond 8 hx au (fun k hk=>by cases hk) au (S9 os))) ?_
 intro W base args ds gs before hval hW _ _ _ hL _ _;exact T9 H enc W base args ds gs before hval hW hL
theorem said:Rows.CheckerSignsSaid:=
 OpenClaim.holds_of_cond 3 Tryz.f3 rfl rfl rfl rfl rfl rfl rfl ⟨rfl,rfl,rfl,rfl,rfl⟩ rfl rfl rfl rfl rfl au Tryz.func3 au
  (of_decide_eq_true au) (by unfold Func.isWrapper;first|(rw[if_pos b9];kernel_rfl)|(rw[if_neg b9];exact⟨rfl,rfl⟩))
  (fun os started H enc _ F=>by rw[OpenClaim.pre_eq_preRow];exact lifted os started H enc F)
theorem plain (f:FuncId) (fn:Func) (hf:Tryz.pinned.checked.prog.funcNamed "schisma/schismalaw55.CheckerSigns" = some f) (hfn:Tryz.pinned.checked.prog.funcs[f]?=some fn) :
  true=Tryz.pinned.checked.prog.looks []∧∀(j:Nat) t,fn.params[j]?=some t→Tryz.pinned.checked.prog.wantsStandIn t=false:=by
 obtain rfl:f=3:=Option.some.inj ((show Tryz.prog.funcNamed "schisma/schismalaw55.CheckerSigns" = some 3 by kernel_rfl).symm.trans hf) |>.symm
 obtain rfl:fn=Tryz.f3:=(Option.some.inj (Tryz.func3.symm.trans hfn)).symm;refine⟨au,fun j t ht=>?_⟩;rw[Tryz.params3]at ht;have hm:t ∈ [23,25,27]:=by simpa using Array.mem_of_getElem? ht
 simp only[Zc,Yc,or_false]at hm;rcases hm with rfl|rfl|rfl
 .exact(show Tryz.prog.wantsStandIn 23=false by kernel_rfl)
 .exact(show Tryz.prog.wantsStandIn 25=false by kernel_rfl)
 .exact(show Tryz.prog.wantsStandIn 27=false by kernel_rfl)
theorem card:Rows.CheckerSignsCardSaid:=
 Claim7.holds_tied_plain_at .later [] _ _ _ _ said (fun _ h=>by cases h) au (fun _ h=>by cases h) checkerSigns_row_tie rfl ⟨rfl,rfl⟩ au rfl plain au
end Go.Proofs.YtgcaaigeilmbaabGreatDoor.checkerSigns
