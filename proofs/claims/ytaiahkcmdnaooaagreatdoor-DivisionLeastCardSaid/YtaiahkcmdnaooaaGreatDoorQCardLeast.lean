/- DivisionLeast: for every input the law returns true, and leaves its arguments as they were; no condition. -/
import Derived.Test.YtaiahkcmdnaooaaGreatDoorQBsG
import Derived.Test.YtaiahkcmdnaooaaGreatDoorQJoin
import Derived.Deep.DeepHandedRow
import Derived.Lib.LaidTab
set_option linter.unusedVariables false
set_option linter.unusedSimpArgs false
namespace Go.Proofs.YtaiahkcmdnaooaaGreatDoor.divisionLeast
open Go Go.Am Go.Vm Go.ChangeShapes Go.WideShapes Go.ChangeAt Go.RowKit
theorem own:ownKnob Tryz.prog.godebug=none:=ag
theorem laidOut:laidOutB Tryz.prog=true:=ag
theorem Tw : Tryz.prog.globalNamed "internal/strconv.uint64pow10" = some jX := by kernel_rfl
theorem AO:(Tryz.prog.globals[jX]?).map (·.type)=some 255:=ag
theorem H4:Tryz.prog.underlying 255=some (.array 20 199):=ag
theorem H5:Tryz.prog.underlying 199=some (.int .u64):=ag
theorem Bn:Tryz.prog.cellsOf 199=1:=ag
theorem Bm:Tryz.prog.cellsOf 255=20:=ag
theorem cells3:Tryz.prog.cellsOf 3=1:=ag
theorem results:Tryz.f7.resultTypes = #[4]:=ag
theorem pow {W:World} (h:laidMetH Tryz.prog Rows.divisionLeastRow.laid W):HT W:=
 NS Tw AO H4 H5 Bn Bm (l:=Rows.divisionLeastRow.laid) (.tail _ (.tail _ (.head _))) h
theorem AG {P:Program} {W:World} {base:Nat} {t:TypeId} {k:IntKind} {v:Value} (ht:P.underlying t=some (.int k)) (h:Value.okWide P W .any base t v):∀ cs,v≠.agg cs:=by
 rintro cs rfl;simp only [Value.okWide,ht,Cell.okWide,Cell.ok] at h
theorem Ih {P:Program} {W:World} {base:Nat} {t e:TypeId} {v:Value} (ht:P.underlying t=some (.slice e)) (h:Value.okWide P W .any base t v):∀ cs,v≠.agg cs:=by
 rintro cs rfl;simp only [Value.okWide,ht,Cell.okWide,Cell.ok] at h
def sh4:Sh:=.ar 4 (.int .i8)
def uU:Sh:=.st [.int .u8,.sl sh4]
theorem cells5:Tryz.prog.cellsOf 5=1:=ag
theorem we:Tryz.prog.cellsOf 22=1:=ag
theorem wd:Tryz.prog.cellsOf 23=4:=ag
theorem wc:Tryz.prog.cellsOf 59=1:=ag
theorem EO:Tryz.prog.cellsOf 61=2:=ag
theorem MD:Typ Tryz.prog (.int .u8) 5:=⟨Tryz.underlying5,cells5⟩
theorem MF:Typ Tryz.prog (.int .i8) 22:=⟨Tryz.underlying22,we⟩
theorem ME:Typ Tryz.prog sh4 23:=⟨22,Tryz.underlying23,by rw [we,wd],MF⟩
theorem MC:Typ Tryz.prog (.sl sh4) 59:=⟨23,Tryz.underlying59,wc,by rw [wd];decide,ME⟩
theorem MB:Typ Tryz.prog uU 61:=⟨_,Tryz.underlying61,_,_,rfl,rfl,MD,_,_,rfl,by rw [cells5],MC,rfl,by rw [cells5,wc,EO]⟩
theorem wf_u8 {n:Int} (h:(Lit.int .u8 n).wf=true):0<=n∧n<=255:=by
 simp only [Lit.wf,Z7,decide_eq_true_eq] at h;exact h
theorem wf_i8 {n:Int} (h:(Lit.int .i8 n).wf=true) : -128<=n∧n<=127:=by
 simp only [Lit.wf,Z7,decide_eq_true_eq] at h;exact h
theorem Je {d:D} (h:Dat (.int .u8) [d]):∃ k:Nat,k<256∧d=.int .u8 k:=by
 obtain ⟨n,e,hw⟩:=h;simp only [List.cons.injEq,and_true] at e;have hb:=wf_u8 hw;exact ⟨n.toNat,aa,by rw [e,Wz hb.1]⟩
theorem Pk (ds:List D) (h:Dat sh4 ds):∃ x:I4,ds=i4D x∧ok4 x:=by
 obtain ⟨xs,rfl,hl,hx⟩:=h
 match xs,hl,hx with
 | [x1,x2,x3,x4],_,hx=>
  obtain ⟨a,rfl,ha⟩:=hx x1 af;obtain ⟨b,rfl,hb⟩:=hx x2 af;obtain ⟨c,rfl,hc⟩:=hx x3 af;obtain ⟨d,rfl,hd⟩:=hx x4 af;exact ⟨(a,b,c,d),rfl,wf_i8 ha,wf_i8 hb,wf_i8 hc,wf_i8 hd⟩
theorem xr {ds:List D} (h:Dat uU ds):∃ (k:Nat) (e:List I4),ds=[.int .u8 k,.sl e.length (e.flatMap i4D)]∧k<256∧∀ x∈e,ok4 x:=by
 obtain ⟨a,b,rfl,⟨n,rfl,hn⟩,a',b',rfl,h2,rfl⟩:=h;have h2':=h2;obtain ⟨xs,rfl,_⟩:=h2';have hb:=wf_u8 hn;obtain ⟨e,he,hq⟩:=Hu (f:=i4D) ok4 Pk h2;exact ⟨n.toNat,e,by simp only [Yo,List.cons_append,List.nil_append];rw [he,Wz hb.1],aa,hq⟩
set_option maxRecDepth 20000 in
theorem Bh (H:Type) (enc:TypeId × Value->H) (W:World) (base:Nat) (args:Array Value) (ds gs:List (DataW H)) (before:List MemPlace)
  (hval:∀ (j:Nat) t v,Tryz.f7.params[j]? = some t->args[j]? = some v->Value.okWide Tryz.prog W .any base t v)
  (hW:DataW.Whole enc Tryz.prog Tryz.f7.params.toList Rows.divisionLeastSpec.vars false W args.toList ds gs before) (hL:laidMetH Tryz.prog Rows.divisionLeastRow.laid W) :
  Calls Tryz.prog 7 args W fun e W'=>∃ v,e=.returned v∧Rows.divisionLeastSpec.post enc Tryz.prog Tryz.f7 false true false false W args v W':=by
 have hW':=hW;obtain ⟨p,q,hA0,hV,rfl,hfz,hnd⟩:=hW;have hA:DataW.TrodAll enc Tryz.prog W 0 (fun _=>true) true Tryz.f7.params.toList args.toList ds p:=hA0;rw [Tryz.params7] at hA hval;obtain ⟨v0,vs0,d0,ds0,p0,q0,hargs,rfl,rfl,h0,r0⟩:=trodAll_cons hA;obtain ⟨v1,vs1,d1,ds1,p1,q1,rfl,rfl,rfl,h1,r1⟩:=trodAll_cons r0;obtain ⟨rfl,rfl,rfl⟩:=trodAll_nil r1;obtain rfl:args = #[v0,v1]:=by cases args;simp_all
 obtain ⟨rfl,rfl⟩:=trodVars_none hV;obtain ⟨f0,t0⟩:=h0;obtain ⟨f1,t1⟩:=h1;obtain ⟨D0,e0,w0⟩:=Jy MB t0 (zC Tryz.underlying61 (hval 0 61 v0 af af));obtain ⟨D1,e1,w1⟩:=Mw MD cells5 t1 (AG Tryz.underlying5 (hval 1 5 v1 af af));obtain ⟨k,e,rfl,hk,hb⟩:=xr e0;obtain ⟨m,hm,rfl⟩:=Je e1
 have hc:=wg (rs:=[.many [.int .u8 k,.sl e.length (e.flatMap i4D)],.one (.int .u8 m)]) (vs:=[v0,v1]) (w:=W) (LS hk hm hb) ⟨_,_,rfl,w0,_,_,rfl,w1,rfl⟩ (pow hL);refine hc.mono fun e W' ⟨he,hk⟩=>?_
 subst he;have hlt:=hW'.lt
 have hargs':∀ sp:Nat->Bool,(∀ x∈(p0++(p1++[]))++[],sp x.block=true)->DataW.TrodAll enc Tryz.prog W' 0 sp true Tryz.f7.params.toList [v0,v1] [d0,d1] (p0++(p1++[])):=fun sp hsp=>
  pX laidOut hk (by rw [Tryz.params7];intro t ht;simp only [Zt,Zd,or_false] at ht;rcases ht with rfl | rfl <;> exact ⟨ag,of_decide_eq_true ag⟩) hA0 (fun x hx=>hlt x (by simpa using hx)) (fun x hx=>hsp x (by simpa using hx))
 exact ⟨_,rfl,CF (pa:=p0++(p1++[])) (pv:=[]) hW' (fun _ _ _=>by rw [results];exact trodAll_cons_mk (shut_bool Tryz.underlying4 _) trodAll_mk0) hargs' (fun _ _=>rfl) rfl hk (ok_one results rfl (okWide_bool_mk Tryz.underlying4 _))⟩
def Tf:DataW Unit->Value
 | .lit (.int k n)=>.int k n
 | _=>undef
def Ia:DataW Unit->Array Value
 | .agg l=>(l.map Tf).toArray
 | _=>#[]
def O4:DataW Unit->Value
 | .iface _ (.ptr (.agg [.lit (.string l)]))=>.string ⟨l.toArray⟩
 | _=>undef
def zO (cs:Array Value):Obj->Obj
 | .cells _ t frozen=>.cells cs t frozen
 | o=>o
noncomputable def mJ (os:Os):World:=
 let w0:=World.holding Tryz.prog os ⟨#[.cells #[O4 Rows.laid_strconv_ErrSyntax] 266,.cells #[O4 Rows.laid_strconv_ErrRange] 266],#[],[]⟩
 let low:=(World.settled Tryz.prog os).heap.size
 { w0 with heap:=((((w0.heap.modify 1 (zO #[.iface 264 (.pointer (some ⟨low,0,none⟩))])).modify 2 (zO #[.iface 264 (.pointer (some ⟨low+1,0,none⟩))])).modify 0 (zO (Ia Rows.laid_internal_strconv_uint64pow10))).modify 3 (zO (Ia Rows.laid_math_bits_deBruijn32tab))).modify 4 (zO (Ia Rows.laid_math_bits_deBruijn64tab)) }
abbrev qq:Array Value:=#[.agg #[.int .u8 0,.slice none 0 0],.int .u8 0]
theorem AD (os:Os):laidMet Tryz.prog Rows.divisionLeastRow.laid ((mJ os).forCall (fun _ _=>0) ⟨#[],qq,[]⟩).memory:=
 laidMet_of_run' 8 ag ag
theorem reads (os:Os) {H:Type} (enc:TypeId × Value->H):∃ places,DataW.whole enc Tryz.prog ((mJ os).forCall (fun _ _=>0) ⟨#[],qq,[]⟩).memory Tryz.f7.params.toList Rows.divisionLeastSpec.vars false qq.toList 8=some ([.agg [.lit (.int .u8 0),.nil],.lit (.int .u8 0)],[],places):=
 ⟨[],ag⟩
set_option maxRecDepth 100000 in
theorem lifted (os:Os) (started:os.Started) (H:Type) (enc:TypeId × Value->H) (F:Stop.Interp) :
  ReturnsInHanded {} Tryz.checked os 7 .any ((OpenSpec.ofChange Rows.divisionLeastSpec).preRow enc Tryz.prog Tryz.f7 Rows.divisionLeastRow.domain false Rows.divisionLeastRow.laid) (((OpenSpec.ofChange Rows.divisionLeastSpec).at F).post enc Tryz.prog Tryz.f7 false true false false):=by
 obtain ⟨places,hx⟩:=reads os enc
 refine returnsInHanded_of_row (C:=Tryz.checked) (s:=OpenSpec.ofChange Rows.divisionLeastSpec) own started ag Tryz.func7
  (witness_row_at (enc:=enc) (C:=Tryz.checked) false (mJ os) qq rfl ag ag ag
   (OpenSpec.preRow_of_cond 8 hx ag (fun k hk=>by cases hk) ag (AD os))) ?_
 intro W base args ds gs before hval hW _ _ _ hL _ _;exact Bh H enc W base args ds gs before hval hW hL
theorem said:Rows.DivisionLeastSaid:=
 OpenClaim.holds_of_cond 7 Tryz.f7 rfl rfl rfl rfl rfl rfl rfl ⟨rfl,rfl,rfl,rfl,rfl⟩ rfl rfl rfl rfl rfl ag Tryz.func7 ag
  (of_decide_eq_true ag) (by unfold Func.isWrapper;first | (rw [if_pos aM];kernel_rfl) | (rw [if_neg aM];exact ⟨rfl,rfl⟩))
  (fun os started H enc _ F=>by rw [OpenClaim.pre_eq_preRow];exact lifted os started H enc F)
theorem plain (f : FuncId) (fn : Func) (hf : Tryz.pinned.checked.prog.funcNamed "schisma/schismalaw30.DivisionLeast" = some f) (hfn : Tryz.pinned.checked.prog.funcs[f]? = some fn) :
  true=Tryz.pinned.checked.prog.looks []∧∀ (j:Nat) t,fn.params[j]? = some t→Tryz.pinned.checked.prog.wantsStandIn t=false:=by
 obtain rfl : f = 7 := Option.some.inj ((show Tryz.prog.funcNamed "schisma/schismalaw30.DivisionLeast" = some 7 by kernel_rfl).symm.trans hf) |>.symm
 obtain rfl:fn=Tryz.f7:=(Option.some.inj (Tryz.func7.symm.trans hfn)).symm;refine ⟨ag,fun j t ht=>?_⟩;rw [Tryz.params7] at ht;have hm:t ∈ [61,5]:=by simpa using Wq ht
 simp only [Zt,Zd,or_false] at hm;rcases hm with rfl | rfl
 ·exact (show Tryz.prog.wantsStandIn 61=false by kernel_rfl)
 ·exact (show Tryz.prog.wantsStandIn 5=false by kernel_rfl)
theorem card:Rows.DivisionLeastCardSaid:=
 Claim7.holds_tied_plain_at .later [] _ _ _ _ said (fun _ h=>by cases h) ag (fun _ h=>by cases h) divisionLeast_row_tie rfl ⟨rfl,rfl⟩ ag rfl plain ag
end Go.Proofs.YtaiahkcmdnaooaaGreatDoor.divisionLeast
