/- DivisionErrors: for every input the law returns true, and leaves its arguments as they were; no condition. -/
import Derived.Test.YtaiahkcmdnaooaaGreatDoorQBsA
import Derived.Test.YtaiahkcmdnaooaaGreatDoorQDat
set_option linter.unusedVariables false
set_option linter.unusedSimpArgs false
namespace Go.Proofs.YtaiahkcmdnaooaaGreatDoor.divisionErrors
open Go Go.Am Go.Vm Go.ChangeShapes Go.WideShapes Go.ChangeAt Go.RowKit
theorem own:ownKnob Tryz.prog.godebug=none:=ag
theorem laidOut:laidOutB Tryz.prog=true:=ag
theorem results:Tryz.f12.resultTypes = #[4]:=ag
theorem pow {W:World} (h:laidMetH Tryz.prog Rows.divisionErrorsRow.laid W):KA W:=
 SH XZ Oq Sl Sm Pj Pi (l:=Rows.divisionErrorsRow.laid) (.tail _ (.tail _ (.head _))) h
theorem Uj:Typ Tryz.prog (Jg) 26:=vP ag
theorem Ra:Tryz.prog.cellsOf 26=1:=ag
theorem WB:Typ Tryz.prog (.int .i64) 3:=vP ag
theorem cells3:Tryz.prog.cellsOf 3=1:=ag
theorem Ui:Typ Tryz.prog (.sl Jg) 64:=vP ag
theorem Q9:Tryz.prog.cellsOf 64=1:=ag
set_option maxRecDepth 20000 in
theorem O5 (H:Type) (enc:TypeId × Value->H) (W:World) (base:Nat) (args:Array Value) (ds gs:List (DataW H)) (before:List MemPlace)
  (hval:∀ (j:Nat) t v,Tryz.f12.params[j]? = some t->args[j]? = some v->Value.okWide Tryz.prog W .any base t v)
  (hW:DataW.Whole enc Tryz.prog Tryz.f12.params.toList Rows.divisionErrorsSpec.vars false W args.toList ds gs before) (hL:laidMetH Tryz.prog Rows.divisionErrorsRow.laid W) :
  Calls Tryz.prog 12 args W fun e W'=>∃ v,e=.returned v∧Rows.divisionErrorsSpec.post enc Tryz.prog Tryz.f12 false true false false W args v W':=by
 have hW':=hW;obtain ⟨p,q,hA0,hV,rfl,hfz,hnd⟩:=hW;have hA:DataW.TrodAll enc Tryz.prog W 0 (fun _=>true) true Tryz.f12.params.toList args.toList ds p:=hA0;rw [Tryz.params12] at hA hval;obtain ⟨v0,vs0,d0,ds0,p0,q0,hargs,rfl,rfl,h0,r0⟩:=trodAll_cons hA;obtain ⟨v1,vs1,d1,ds1,p1,q1,rfl,rfl,rfl,h1,r1⟩:=trodAll_cons r0;obtain ⟨v2,vs2,d2,ds2,p2,q2,rfl,rfl,rfl,h2,r2⟩:=trodAll_cons r1
 obtain ⟨rfl,rfl,rfl⟩:=trodAll_nil r2;obtain rfl:args = #[v0,v1,v2]:=by cases args;simp_all
 obtain ⟨rfl,rfl⟩:=trodVars_none hV;obtain ⟨f0,t0⟩:=h0;obtain ⟨f1,t1⟩:=h1;obtain ⟨f2,t2⟩:=h2;obtain ⟨D0,e0,w0⟩:=Hq Uj Ra t0 (ze Tryz.underlying26 (hval 0 26 v0 af af));obtain ⟨D1,e1,w1⟩:=Hq WB cells3 t1 (Oj Tryz.underlying3 (hval 1 3 v1 af af))
 obtain ⟨D2,e2,w2⟩:=Hq Ui Q9 t2 (ze Tryz.underlying64 (hval 2 64 v2 af af));obtain ⟨a,rfl,ha⟩:=Kf e0;obtain ⟨z,hz,rfl⟩:=QZ e1;obtain ⟨m,r2,hm⟩:=O0 e2;obtain rfl:=V.d.inj r2
 have hc:=EC (rs:=[.one (row a),.one (di z),.one (.sl m.length (m.map row))]) (vs:=[v0,v1,v2]) (w:=W) (Oa (p:=a) (n:=z) (l:=m)) ⟨_,_,rfl,w0,_,_,rfl,w1,_,_,rfl,w2,rfl⟩ (pow hL);refine hc.mono fun e W' ⟨he,hk⟩=>?_
 subst he;have hlt:=hW'.lt
 have hargs':∀ sp:Nat->Bool,(∀ x∈(p0++(p1++(p2++[])))++[],sp x.block=true)->DataW.TrodAll enc Tryz.prog W' 0 sp true Tryz.f12.params.toList [v0,v1,v2] [d0,d1,d2] (p0++(p1++(p2++[]))):=fun sp hsp=>
  um laidOut hk (by rw [Tryz.params12];intro t ht;simp only [Zr,Y6,or_false] at ht;rcases ht with rfl | rfl | rfl <;> exact ⟨ag,of_decide_eq_true ag⟩) hA0 (fun x hx=>hlt x (by simpa using hx)) (fun x hx=>hsp x (by simpa using hx))
 exact ⟨_,rfl,K9 (pa:=p0++(p1++(p2++[]))) (pv:=[]) hW' (fun _ _ _=>by rw [results];exact trodAll_cons_mk (shut_bool Tryz.underlying4 _) trodAll_mk0) hargs' (fun _ _=>rfl) rfl hk (ok_one results rfl (okWide_bool_mk Tryz.underlying4 _))⟩
abbrev D3:Array Value:=#[.slice none 0 0,.int .i64 0,.slice none 0 0]
theorem Ob (os:Os):laidMet Tryz.prog Rows.divisionErrorsRow.laid ((wB os).forCall (fun _ _=>0) ⟨#[],D3,[]⟩).memory:=
 laidMet_of_run' 8 ag ag
theorem reads (os:Os) {H:Type} (enc:TypeId × Value->H):∃ places,DataW.whole enc Tryz.prog ((wB os).forCall (fun _ _=>0) ⟨#[],D3,[]⟩).memory Tryz.f12.params.toList Rows.divisionErrorsSpec.vars false D3.toList 8=some ([.nil,.lit (.int .i64 0),.nil],[],places):=
 ⟨[],ag⟩
set_option maxRecDepth 100000 in
theorem lifted (os:Os) (started:os.Started) (H:Type) (enc:TypeId × Value->H) (F:Stop.Interp) :
  ReturnsInHanded {} Tryz.checked os 12 .any ((OpenSpec.ofChange Rows.divisionErrorsSpec).preRow enc Tryz.prog Tryz.f12 Rows.divisionErrorsRow.domain false Rows.divisionErrorsRow.laid) (((OpenSpec.ofChange Rows.divisionErrorsSpec).at F).post enc Tryz.prog Tryz.f12 false true false false):=by
 obtain ⟨places,hx⟩:=reads os enc
 refine returnsInHanded_of_row (C:=Tryz.checked) (s:=OpenSpec.ofChange Rows.divisionErrorsSpec) own started ag Tryz.func12
  (witness_row_at (enc:=enc) (C:=Tryz.checked) false (wB os) D3 rfl ag ag ag
   (OpenSpec.preRow_of_cond 8 hx ag (fun k hk=>by cases hk) ag (Ob os))) ?_
 intro W base args ds gs before hval hW _ _ _ hL _ _;exact O5 H enc W base args ds gs before hval hW hL
theorem said:Rows.DivisionErrorsSaid:=
 OpenClaim.holds_of_cond 12 Tryz.f12 rfl rfl rfl rfl rfl rfl rfl ⟨rfl,rfl,rfl,rfl,rfl⟩ rfl rfl rfl rfl rfl ag Tryz.func12 ag
  (of_decide_eq_true ag) (by unfold Func.isWrapper;first | (rw [if_pos aG];kernel_rfl) | (rw [if_neg aG];exact ⟨rfl,rfl⟩))
  (fun os started H enc _ F=>by rw [OpenClaim.pre_eq_preRow];exact lifted os started H enc F)
theorem plain (f : FuncId) (fn : Func) (hf : Tryz.pinned.checked.prog.funcNamed "schisma/schismalaw30.DivisionErrors" = some f) (hfn : Tryz.pinned.checked.prog.funcs[f]? = some fn) :
  true=Tryz.pinned.checked.prog.looks []∧∀ (j:Nat) t,fn.params[j]? = some t→Tryz.pinned.checked.prog.wantsStandIn t=false:=by
 obtain rfl : f = 12 := Option.some.inj ((show Tryz.prog.funcNamed "schisma/schismalaw30.DivisionErrors" = some 12 by kernel_rfl).symm.trans hf) |>.symm
 obtain rfl:fn=Tryz.f12:=(Option.some.inj (Tryz.func12.symm.trans hfn)).symm;refine ⟨ag,fun j t ht=>?_⟩;rw [Tryz.params12] at ht;have hm:t ∈ [26,3,64]:=by simpa using Array.mem_of_getElem? ht
 simp only [Zr,Y6,or_false] at hm;rcases hm with rfl | rfl | rfl
 ·exact (show Tryz.prog.wantsStandIn 26=false by kernel_rfl)
 ·exact (show Tryz.prog.wantsStandIn 3=false by kernel_rfl)
 ·exact (show Tryz.prog.wantsStandIn 64=false by kernel_rfl)
theorem card:Rows.DivisionErrorsCardSaid:=
 Claim7.holds_tied_plain_at .later [] _ _ _ _ said (fun _ h=>by cases h) ag (fun _ h=>by cases h) divisionErrors_row_tie rfl ⟨rfl,rfl⟩ ag rfl plain ag
end Go.Proofs.YtaiahkcmdnaooaaGreatDoor.divisionErrors
