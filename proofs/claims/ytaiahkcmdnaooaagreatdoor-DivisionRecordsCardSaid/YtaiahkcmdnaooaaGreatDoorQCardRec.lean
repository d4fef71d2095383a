/- DivisionRecords: for every input the law returns true, and leaves its arguments as they were; no condition. -/
import Derived.Test.YtaiahkcmdnaooaaGreatDoorQJoin
import Derived.Test.YtaiahkcmdnaooaaGreatDoorQLdY
import Derived.Deep.DeepHandedRow
import Derived.Lib.LaidTab
namespace Go.Proofs.YtaiahkcmdnaooaaGreatDoor.divisionRecords
open Go Go.Am Go.Vm Go.ChangeShapes Go.WideShapes Go.ChangeAt Go.RowKit
theorem own:ownKnob Tryz.prog.godebug=none:=by kernel_rfl
theorem laidOut:laidOutB Tryz.prog=true:=by kernel_rfl
theorem UQ : Tryz.prog.globalNamed "internal/strconv.uint64pow10" = some jL := by kernel_rfl
theorem L5:(Tryz.prog.globals[jL]?).map (·.type)=some 255:=by kernel_rfl
theorem PS:Tryz.prog.underlying 255=some (.array 20 199):=by kernel_rfl
theorem PT:Tryz.prog.underlying 199=some (.int .u64):=by kernel_rfl
theorem MS:Tryz.prog.cellsOf 199=1:=by kernel_rfl
theorem MR:Tryz.prog.cellsOf 255=20:=by kernel_rfl
theorem cells3:Tryz.prog.cellsOf 3=1:=by kernel_rfl
theorem results:Tryz.f3.resultTypes = #[4]:=by kernel_rfl
theorem pow {W:World} (h:laidMetH Tryz.prog Rows.divisionRecordsRow.laid W):IH W:=
 Qa UQ L5 PS PT MS MR (l:=Rows.divisionRecordsRow.laid) (.tail _ (.tail _ (.head _))) h
theorem EN {P:Program} {W:World} {base:Nat} {t:TypeId} {k:IntKind} {v:Value} (ht:P.underlying t=some (.int k)) (h:Value.okWide P W .any base t v):∀ cs,v≠.agg cs:=by
 rintro cs rfl;simp only [Value.okWide,ht,Cell.okWide,Cell.ok] at h
theorem P4 {P:Program} {W:World} {base:Nat} {t e:TypeId} {v:Value} (ht:P.underlying t=some (.slice e)) (h:Value.okWide P W .any base t v):∀ cs,v≠.agg cs:=by
 rintro cs rfl;simp only [Value.okWide,ht,Cell.okWide,Cell.ok] at h
def sh4:Sh:=.ar 4 (.int .i8)
theorem cells5:Tryz.prog.cellsOf 5=1:=by kernel_rfl
theorem Ir:Tryz.prog.cellsOf 22=1:=by kernel_rfl
theorem OO:Tryz.prog.cellsOf 23=4:=by kernel_rfl
theorem RA:Typ Tryz.prog (.int .u8) 5:=⟨Tryz.underlying5,cells5⟩
theorem RF:Typ Tryz.prog (.int .i8) 22:=⟨Tryz.underlying22,Ir⟩
theorem RE:Typ Tryz.prog sh4 23:=⟨22,Tryz.underlying23,by rw [Ir,OO],RF⟩
theorem wf_u8 {n:Int} (h:(Lit.int .u8 n).wf=true):0<=n∧n<=255:=by
 simp only [Lit.wf,Z8,decide_eq_true_eq] at h;exact h
theorem wf_i8 {n:Int} (h:(Lit.int .i8 n).wf=true) : -128<=n∧n<=127:=by
 simp only [Lit.wf,Z8,decide_eq_true_eq] at h;exact h
theorem MD {d:D} (h:Dat (.int .u8) [d]):∃ k:Nat,k<256∧d=.int .u8 k:=by
 obtain ⟨n,e,hw⟩:=h;simp only [List.cons.injEq,and_true] at e;have hb:=wf_u8 hw;exact ⟨n.toNat,by omega,by rw [e,Int.toNat_of_nonneg hb.1]⟩
theorem SN {ds:List D} (h:Dat sh4 ds):∃ a b c d:Int,ds=[.int .i8 a,.int .i8 b,.int .i8 c,.int .i8 d]∧(-128<=a∧a<=127)∧(-128<=b∧b<=127)∧(-128<=c∧c<=127)∧(-128<=d∧d<=127):=by
 obtain ⟨xs,rfl,hl,hx⟩:=h
 match xs,hl,hx with
 | [x1,x2,x3,x4],_,hx=>
  obtain ⟨a,rfl,ha⟩:=hx x1 (by simp);obtain ⟨b,rfl,hb⟩:=hx x2 (by simp);obtain ⟨c,rfl,hc⟩:=hx x3 (by simp);obtain ⟨d,rfl,hd⟩:=hx x4 (by simp);exact ⟨a,b,c,d,rfl,wf_i8 ha,wf_i8 hb,wf_i8 hc,wf_i8 hd⟩
set_option maxRecDepth 20000 in
theorem MH (H:Type) (enc:TypeId × Value->H) (W:World) (base:Nat) (args:Array Value) (ds gs:List (DataW H)) (before:List MemPlace)
  (hval:∀ (j:Nat) t v,Tryz.f3.params[j]? = some t->args[j]? = some v->Value.okWide Tryz.prog W .any base t v)
  (hW:DataW.Whole enc Tryz.prog Tryz.f3.params.toList Rows.divisionRecordsSpec.vars false W args.toList ds gs before) (hL:laidMetH Tryz.prog Rows.divisionRecordsRow.laid W) :
  Calls Tryz.prog 3 args W fun e W'=>∃ v,e=.returned v∧Rows.divisionRecordsSpec.post enc Tryz.prog Tryz.f3 false true false false W args v W':=by
 have hW':=hW;obtain ⟨p,q,hA0,hV,rfl,hfz,hnd⟩:=hW;have hA:DataW.TrodAll enc Tryz.prog W 0 (fun _=>true) true Tryz.f3.params.toList args.toList ds p:=hA0;rw [Tryz.params3] at hA hval;obtain ⟨v0,vs0,d0,ds0,p0,q0,hargs,rfl,rfl,h0,r0⟩:=trodAll_cons hA;obtain ⟨v1,vs1,d1,ds1,p1,q1,rfl,rfl,rfl,h1,r1⟩:=trodAll_cons r0;obtain ⟨v2,vs2,d2,ds2,p2,q2,rfl,rfl,rfl,h2,r2⟩:=trodAll_cons r1
 obtain ⟨rfl,rfl,rfl⟩:=trodAll_nil r2;obtain rfl:args = #[v0,v1,v2]:=by cases args;simp_all
 obtain ⟨rfl,rfl⟩:=trodVars_none hV;obtain ⟨f0,t0⟩:=h0;obtain ⟨f1,t1⟩:=h1;obtain ⟨f2,t2⟩:=h2;obtain ⟨D0,e0,w0⟩:=Kc RA cells5 t0 (EN Tryz.underlying5 (hval 0 5 v0 (by simp) (by simp)));obtain ⟨D1,e1,w1⟩:=Nn RE t1 (J9 Tryz.underlying23 (hval 1 23 v1 (by simp) (by simp)));obtain ⟨D2,e2,w2⟩:=Kc RA cells5 t2 (EN Tryz.underlying5 (hval 2 5 v2 (by simp) (by simp)))
 obtain ⟨k,hk,rfl⟩:=MD e0;obtain ⟨a,b,c,d,rfl,ha,hb,hcc,hd⟩:=SN e1;obtain ⟨m,hm,rfl⟩:=MD e2;have hc:=Cv (rs:=[.one (.int .u8 k),.many [.int .i8 a,.int .i8 b,.int .i8 c,.int .i8 d],.one (.int .u8 m)]) (vs:=[v0,v1,v2]) (w:=W) (rR hk hm ha hb hcc hd) ⟨_,_,rfl,w0,_,_,rfl,w1,_,_,rfl,w2,rfl⟩ (pow hL);refine hc.mono fun e W' ⟨he,hk⟩=>?_
 subst he;have hlt:=hW'.lt
 have hargs':∀ sp:Nat->Bool,(∀ x∈(p0++(p1++(p2++[])))++[],sp x.block=true)->DataW.TrodAll enc Tryz.prog W' 0 sp true Tryz.f3.params.toList [v0,v1,v2] [d0,d1,d2] (p0++(p1++(p2++[]))):=fun sp hsp=>
  tz laidOut hk (by rw [Tryz.params3];intro t ht;simp only [Zt,Zb,or_false] at ht;rcases ht with rfl | rfl | rfl <;> exact ⟨by kernel_rfl,of_decide_eq_true (by kernel_rfl)⟩) hA0 (fun x hx=>hlt x (by simpa using hx)) (fun x hx=>hsp x (by simpa using hx))
 exact ⟨_,rfl,Jg (pa:=p0++(p1++(p2++[]))) (pv:=[]) hW' (fun _ _ _=>by rw [results];exact trodAll_cons_mk (shut_bool Tryz.underlying4 _) trodAll_mk0) hargs' (fun _ _=>rfl) rfl hk (ok_one results rfl (okWide_bool_mk Tryz.underlying4 _))⟩
def UG:DataW Unit->Value
 | .lit (.int k n)=>.int k n
 | _=>undef
def PY:DataW Unit->Array Value
 | .agg l=>(l.map UG).toArray
 | _=>#[]
def SI:DataW Unit->Value
 | .iface _ (.ptr (.agg [.lit (.string l)]))=>.string ⟨l.toArray⟩
 | _=>undef
def KI (cs:Array Value):Obj->Obj
 | .cells _ t frozen=>.cells cs t frozen
 | o=>o
noncomputable def vm (os:Os):World:=
 let w0:=World.holding Tryz.prog os ⟨#[.cells #[SI Rows.laid_strconv_ErrSyntax] 266,.cells #[SI Rows.laid_strconv_ErrRange] 266],#[],[]⟩
 let low:=(World.settled Tryz.prog os).heap.size
 { w0 with heap:=((((w0.heap.modify 1 (KI #[.iface 264 (.pointer (some ⟨low,0,none⟩))])).modify 2 (KI #[.iface 264 (.pointer (some ⟨low+1,0,none⟩))])).modify 0 (KI (PY Rows.laid_internal_strconv_uint64pow10))).modify 3 (KI (PY Rows.laid_math_bits_deBruijn32tab))).modify 4 (KI (PY Rows.laid_math_bits_deBruijn64tab)) }
abbrev BY:Array Value:=#[.int .u8 0,.agg #[.int .i8 0,.int .i8 0,.int .i8 0,.int .i8 0],.int .u8 0]
theorem LO (os:Os):laidMet Tryz.prog Rows.divisionRecordsRow.laid ((vm os).forCall (fun _ _=>0) ⟨#[],BY,[]⟩).memory:=
 laidMet_of_run' 8 (by kernel_rfl) (by kernel_rfl)
theorem reads (os:Os) {H:Type} (enc:TypeId × Value->H):∃ places,DataW.whole enc Tryz.prog ((vm os).forCall (fun _ _=>0) ⟨#[],BY,[]⟩).memory Tryz.f3.params.toList Rows.divisionRecordsSpec.vars false BY.toList 8=some ([.lit (.int .u8 0),.agg [.lit (.int .i8 0),.lit (.int .i8 0),.lit (.int .i8 0),.lit (.int .i8 0)],.lit (.int .u8 0)],[],places):=
 ⟨[],by kernel_rfl⟩
set_option maxRecDepth 100000 in
theorem lifted (os:Os) (started:os.Started) (H:Type) (enc:TypeId × Value->H) (F:Stop.Interp) :
  ReturnsInHanded {} Tryz.checked os 3 .any ((OpenSpec.ofChange Rows.divisionRecordsSpec).preRow enc Tryz.prog Tryz.f3 Rows.divisionRecordsRow.domain false Rows.divisionRecordsRow.laid) (((OpenSpec.ofChange Rows.divisionRecordsSpec).at F).post enc Tryz.prog Tryz.f3 false true false false):=by
 obtain ⟨places,hx⟩:=reads os enc
 refine returnsInHanded_of_row (C:=Tryz.checked) (s:=OpenSpec.ofChange Rows.divisionRecordsSpec) own started (by kernel_rfl) Tryz.func3
  (witness_row_at (enc:=enc) (C:=Tryz.checked) false (vm os) BY rfl (by kernel_rfl) (by kernel_rfl) (by kernel_rfl)
   (OpenSpec.preRow_of_cond 8 hx (by kernel_rfl) (fun k hk=>by cases hk) (by kernel_rfl) (LO os))) ?_
 intro W base args ds gs before hval hW _ _ _ hL _ _;exact MH H enc W base args ds gs before hval hW hL
theorem said:Rows.DivisionRecordsSaid:=
 OpenClaim.holds_of_cond 3 Tryz.f3 rfl rfl rfl rfl rfl rfl rfl ⟨rfl,rfl,rfl,rfl,rfl⟩ rfl rfl rfl rfl rfl (by kernel_rfl) Tryz.func3 (by kernel_rfl)
  (of_decide_eq_true (by kernel_rfl)) (by unfold Func.isWrapper;first | (rw [if_pos (by decide +kernel)];kernel_rfl) | (rw [if_neg (by decide +kernel)];exact ⟨rfl,rfl⟩))
  (fun os started H enc _ F=>by rw [OpenClaim.pre_eq_preRow];exact lifted os started H enc F)
theorem plain (f : FuncId) (fn : Func) (hf : Tryz.pinned.checked.prog.funcNamed "schisma/schismalaw30.DivisionRecords" = some f) (hfn : Tryz.pinned.checked.prog.funcs[f]? = some fn) :
  true=Tryz.pinned.checked.prog.looks []∧∀ (j:Nat) t,fn.params[j]? = some t→Tryz.pinned.checked.prog.wantsStandIn t=false:=by
 obtain rfl : f = 3 := Option.some.inj ((show Tryz.prog.funcNamed "schisma/schismalaw30.DivisionRecords" = some 3 by kernel_rfl).symm.trans hf) |>.symm
 obtain rfl:fn=Tryz.f3:=(Option.some.inj (Tryz.func3.symm.trans hfn)).symm;refine ⟨by kernel_rfl,fun j t ht=>?_⟩;rw [Tryz.params3] at ht;have hm:t ∈ [5,23,5]:=by simpa using Array.mem_of_getElem? ht
 simp only [Zt,Zb,or_false] at hm;rcases hm with rfl | rfl | rfl
 ·exact (show Tryz.prog.wantsStandIn 5=false by kernel_rfl)
 ·exact (show Tryz.prog.wantsStandIn 23=false by kernel_rfl)
 ·exact (show Tryz.prog.wantsStandIn 5=false by kernel_rfl)
theorem card:Rows.DivisionRecordsCardSaid:=
 Claim7.holds_tied_plain_at .later [] _ _ _ _ said (fun _ h=>by cases h) (by kernel_rfl) (fun _ h=>by cases h) divisionRecords_row_tie rfl ⟨rfl,rfl⟩ (by kernel_rfl) rfl plain (by kernel_rfl)
end Go.Proofs.YtaiahkcmdnaooaaGreatDoor.divisionRecords
