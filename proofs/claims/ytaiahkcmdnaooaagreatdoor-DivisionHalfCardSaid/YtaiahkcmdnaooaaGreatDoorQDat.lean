/- What the cards of seat r2 share: types by their shapes, arguments as data, the world of the witness. -/
import Derived.Test.YtaiahkcmdnaooaaGreatDoorQJoin
import Derived.Test.YtaiahkcmdnaooaaGreatDoorQNnA
import Derived.Deep.DeepHandedRow
import Derived.Lib.LaidTab
set_option linter.unusedVariables false
set_option linter.unusedSimpArgs false
namespace Go.Vm
open Go Go.Am Go.Vm Go.Proofs Go.Proofs.YtaiahkcmdnaooaaGreatDoor Go.ChangeShapes Go.WideShapes Go.ChangeAt Go.RowKit
theorem YT : Tryz.prog.globalNamed "internal/strconv.uint64pow10" = some k8 := by kernel_rfl
theorem Il:(Tryz.prog.globals[k8]?).map (·.type)=some 255:=ag
theorem NW:Tryz.prog.underlying 255=some (.array 20 199):=ag
theorem NX:Tryz.prog.underlying 199=some (.int .u64):=ag
theorem IU:Tryz.prog.cellsOf 199=1:=ag
theorem IT:Tryz.prog.cellsOf 255=20:=ag
mutual
/-- Has a type a shape? -/
def CB (P:Program):Sh->TypeId->Bool
 | .int k,t=>(match P.underlying t with
  | some (.int k')=>decide (k'=k)
  | _=>false) && Nat.beq (P.cellsOf t) 1
 | .bool,t=>(match P.underlying t with
  | some .bool=>true
  | _=>false) && Nat.beq (P.cellsOf t) 1
 | .str,t=>(match P.underlying t with
  | some .string=>true
  | _=>false) && Nat.beq (P.cellsOf t) 1
 | .sl e,t=>(match P.underlying t with
  | some (.slice u)=>Nat.beq (P.cellsOf t) 1 && Nat.blt 0 (P.cellsOf u) && CB P e u
  | _=>false)
 | .ar n e,t=>(match P.underlying t with
  | some (.array m u)=>Nat.beq m n && Nat.beq (P.cellsOf t) (n * P.cellsOf u) && CB P e u
  | _=>false)
 | .st fs,t=>(match P.underlying t with
  | some (.struct l)=>Dq P fs l.toList 0 (P.cellsOf t)
  | _=>false)
def Dq (P:Program):List Sh->List Field->Nat->Nat->Bool
 | [],l,o,n=>l.isEmpty && Nat.beq o n
 | s :: ss,l,o,n=>(match l with
  | []=>false
  | f :: r=>Nat.beq f.offset o && CB P s f.type && Dq P ss r (o+P.cellsOf f.type) n)
end
mutual
theorem vk {P:Program}:∀ {s:Sh} {t:TypeId},CB P s t=true->Typ P s t
 | .int k,t,h=>by
  simp only [CB,Z8] at h;obtain ⟨h1,h2⟩:=h;split at h1
  ·rename_i h3;obtain rfl:=of_decide_eq_true h1;exact ⟨h3,Zo h2⟩
  ·cases h1
 | .bool,t,h=>by
  simp only [CB,Z8] at h;obtain ⟨h1,h2⟩:=h;split at h1
  ·rename_i h3;exact ⟨h3,Zo h2⟩
  ·cases h1
 | .str,t,h=>by
  simp only [CB,Z8] at h;obtain ⟨h1,h2⟩:=h;split at h1
  ·rename_i h3;exact ⟨h3,Zo h2⟩
  ·cases h1
 | .sl e,t,h=>by
  simp only [CB] at h;split at h
  ·rename_i u h3;simp only [Z8] at h;obtain ⟨⟨h1,h2⟩,h4⟩:=h;exact ⟨u,h3,Zo h1,by have:=h2;simp [Nat.blt] at this;omega,vk h4⟩
  ·cases h
 | .ar n e,t,h=>by
  simp only [CB] at h;split at h
  ·rename_i m u h3;simp only [Z8] at h;obtain ⟨⟨h1,h2⟩,h4⟩:=h;obtain rfl:=Zo h1;exact ⟨u,h3,Zo h2,vk h4⟩
  ·cases h
 | .st fs,t,h=>by
  simp only [CB] at h;split at h
  ·rename_i l h3;exact ⟨l.toList,by rw [h3],KM h⟩
  ·cases h
theorem KM {P:Program}:∀ {ss:List Sh} {l:List Field} {o n:Nat},Dq P ss l o n=true->NN P ss l o n
 | [],l,o,n,h=>by
  simp only [Dq,Z8,List.isEmpty_iff] at h;exact ⟨h.1,Zo h.2⟩
 | s::ss,[],o,n,h=>by simp [Dq] at h
 | s::ss,f::r,o,n,h=>by
  simp only [Dq,Z8] at h;obtain ⟨⟨h1,h2⟩,h3⟩:=h;exact ⟨f,r,rfl,Zo h1,vk h2,KM h3⟩
end
theorem Qj {P:Program} {W:World} {base:Nat} {t:TypeId} {k:IntKind} {v:Value} (ht:P.underlying t=some (.int k)) (h:Value.okWide P W .any base t v):∀ cs,v≠.agg cs:=by
 rintro cs rfl;simp only [Value.okWide,ht,Cell.okWide,Cell.ok] at h
theorem Jm {P:Program} {W:World} {base:Nat} {t e:TypeId} {v:Value} (ht:P.underlying t=some (.slice e)) (h:Value.okWide P W .any base t v):∀ cs,v≠.agg cs:=by
 rintro cs rfl;simp only [Value.okWide,ht,Cell.okWide,Cell.ok] at h
def sh4:Sh:=.ar 4 (.int .i8)
def E6:Sh:=.st [.int .u8,.sl sh4]
abbrev T4:Sh:=.sl (.int .i64)
theorem wf_u8 {n:Int} (h:(Lit.int .u8 n).wf=true):0<=n∧n<=255:=by
 simp only [Lit.wf,Z8,decide_eq_true_eq] at h;exact h
theorem wf_i8 {n:Int} (h:(Lit.int .i8 n).wf=true) : -128<=n∧n<=127:=by
 simp only [Lit.wf,Z8,decide_eq_true_eq] at h;exact h
theorem ZA (ds:List D) (h:Dat sh4 ds):∃ x:I4,ds=i4D x∧ok4 x:=by
 obtain ⟨xs,rfl,hl,hx⟩:=h
 match xs,hl,hx with
 | [x1,x2,x3,x4],_,hx=>
  obtain ⟨a,rfl,ha⟩:=hx x1 af;obtain ⟨b,rfl,hb⟩:=hx x2 af;obtain ⟨c,rfl,hc⟩:=hx x3 af;obtain ⟨d,rfl,hd⟩:=hx x4 af;exact ⟨(a,b,c,d),rfl,wf_i8 ha,wf_i8 hb,wf_i8 hc,wf_i8 hd⟩
theorem Ej {ds:List D} (h:Dat E6 ds):∃ (k:Nat) (e:List I4),ds=[.int .u8 k,.sl e.length (e.flatMap i4D)]∧k<256∧∀ x∈e,ok4 x:=by
 obtain ⟨a,b,rfl,⟨n,rfl,hn⟩,a',b',rfl,h2,rfl⟩:=h;have h2':=h2;obtain ⟨xs,rfl,_⟩:=h2';have hb:=wf_u8 hn;obtain ⟨e,he,hq⟩:=II (f:=i4D) ok4 ZA h2;exact ⟨n.toNat,e,by simp only [Xj,List.cons_append,List.nil_append];rw [he,Int.toNat_of_nonneg hb.1],aa,hq⟩
theorem wf_u16 {n:Int} (h:(Lit.int .u16 n).wf=true):0<=n∧n<=65535:=by
 simp only [Lit.wf,Z8,decide_eq_true_eq] at h;exact h
theorem Tg {d:D} (h:Dat (.int .u16) [d]):∃ k:Nat,k<65536∧d=.int .u16 k:=by
 obtain ⟨n,e,hw⟩:=h;simp only [List.cons.injEq,and_true] at e;have hb:=wf_u16 hw;exact ⟨n.toNat,aa,by rw [e,Int.toNat_of_nonneg hb.1]⟩
theorem wf_i64 {n:Int} (h:(Lit.int .i64 n).wf=true) : -9223372036854775808<=n∧n<=9223372036854775807:=by
 simp only [Lit.wf,Z8,decide_eq_true_eq] at h;exact h
def XR (x:Int):Prop:=-9223372036854775808<=x∧x<=9223372036854775807
theorem Ti {d:D} (h:Dat T4 [d]):∃ l:List Int,d=row l∧∀ x∈l,XR x:=by
 obtain ⟨l,rfl,hl⟩:=II (f:=fun n=>[di n]) XR (fun ds h=>by
  obtain ⟨n,e,hw⟩:=h;exact ⟨n,e,wf_i64 hw⟩) h
 exact ⟨l,by simp only [row,List.map_eq_flatMap],hl⟩
def abp:DataW Unit->Value
 | .lit (.int k n)=>.int k n
 | _=>undef
def UH:DataW Unit->Array Value
 | .agg l=>(l.map abp).toArray
 | _=>#[]
def YV:DataW Unit->Value
 | .iface _ (.ptr (.agg [.lit (.string l)]))=>.string ⟨l.toArray⟩
 | _=>undef
def Oy (cs:Array Value):Obj->Obj
 | .cells _ t frozen=>.cells cs t frozen
 | o=>o
noncomputable def pd (os:Os):World:=
 let w0:=World.holding Tryz.prog os ⟨#[.cells #[YV Rows.laid_strconv_ErrSyntax] 266,.cells #[YV Rows.laid_strconv_ErrRange] 266],#[],[]⟩
 let low:=(World.settled Tryz.prog os).heap.size
 { w0 with heap:=((((w0.heap.modify 1 (Oy #[.iface 264 (.pointer (some ⟨low,0,none⟩))])).modify 2 (Oy #[.iface 264 (.pointer (some ⟨low+1,0,none⟩))])).modify 0 (Oy (UH Rows.laid_internal_strconv_uint64pow10))).modify 3 (Oy (UH Rows.laid_math_bits_deBruijn32tab))).modify 4 (Oy (UH Rows.laid_math_bits_deBruijn64tab)) }
end Go.Vm
