/- What the cards of seat r2 share: types by their shapes, arguments as data, the world of the witness. -/
import Derived.Test.YtaiahkcmdnaooaaGreatDoorQBsA
import Derived.Test.YtaiahkcmdnaooaaGreatDoorQJoin
import Derived.Deep.DeepHandedRow
import Derived.Lib.LaidTab
set_option linter.unusedVariables false
set_option linter.unusedSimpArgs false
namespace Go.Vm
open Go Go.Am Go.Vm Go.Proofs Go.Proofs.YtaiahkcmdnaooaaGreatDoor Go.ChangeShapes Go.WideShapes Go.ChangeAt Go.RowKit
theorem XZ : Tryz.prog.globalNamed "internal/strconv.uint64pow10" = some kz := by kernel_rfl
theorem Oq:(Tryz.prog.globals[kz]?).map (·.type)=some 255:=ag
theorem Sl:Tryz.prog.underlying 255=some (.array 20 199):=ag
theorem Sm:Tryz.prog.underlying 199=some (.int .u64):=ag
theorem Pj:Tryz.prog.cellsOf 199=1:=ag
theorem Pi:Tryz.prog.cellsOf 255=20:=ag
mutual
/-- Has a type a shape? -/
def Bj (P:Program):Sh->TypeId->Bool
 | .int k,t=>(match P.underlying t with
  | some (.int k')=>decide (k'=k)
  | _=>false) && Nat.beq (P.cellsOf t) 1
 | .bool,t=>(match P.underlying t with
  | some .bool=>true
  | _=>false) && Nat.beq (P.cellsOf t) 1
 | .str,t=>(match P.underlying t with
  | some .string=>true
  | _=>false) && Nat.beq (P.cellsOf t) 1
 | .sl e,t=>(match P.underlying t with
  | some (.slice u)=>Nat.beq (P.cellsOf t) 1 && Nat.blt 0 (P.cellsOf u) && Bj P e u
  | _=>false)
 | .ar n e,t=>(match P.underlying t with
  | some (.array m u)=>Nat.beq m n && Nat.beq (P.cellsOf t) (n * P.cellsOf u) && Bj P e u
  | _=>false)
 | .st fs,t=>(match P.underlying t with
  | some (.struct l)=>B7 P fs l.toList 0 (P.cellsOf t)
  | _=>false)
def B7 (P:Program):List Sh->List Field->Nat->Nat->Bool
 | [],l,o,n=>l.isEmpty && Nat.beq o n
 | s :: ss,l,o,n=>(match l with
  | []=>false
  | f :: r=>Nat.beq f.offset o && Bj P s f.type && B7 P ss r (o+P.cellsOf f.type) n)
end
mutual
theorem vP {P:Program}:∀ {s:Sh} {t:TypeId},Bj P s t=true->Typ P s t
 | .int k,t,h=>by
  simp only [Bj,Z8] at h;obtain ⟨h1,h2⟩:=h;split at h1
  ·rename_i h3;obtain rfl:=of_decide_eq_true h1;exact ⟨h3,Zo h2⟩
  ·cases h1
 | .bool,t,h=>by
  simp only [Bj,Z8] at h;obtain ⟨h1,h2⟩:=h;split at h1
  ·rename_i h3;exact ⟨h3,Zo h2⟩
  ·cases h1
 | .str,t,h=>by
  simp only [Bj,Z8] at h;obtain ⟨h1,h2⟩:=h;split at h1
  ·rename_i h3;exact ⟨h3,Zo h2⟩
  ·cases h1
 | .sl e,t,h=>by
  simp only [Bj] at h;split at h
  ·rename_i u h3;simp only [Z8] at h;obtain ⟨⟨h1,h2⟩,h4⟩:=h;exact ⟨u,h3,Zo h1,by have:=h2;simp [Nat.blt] at this;omega,vP h4⟩
  ·cases h
 | .ar n e,t,h=>by
  simp only [Bj] at h;split at h
  ·rename_i m u h3;simp only [Z8] at h;obtain ⟨⟨h1,h2⟩,h4⟩:=h;obtain rfl:=Zo h1;exact ⟨u,h3,Zo h2,vP h4⟩
  ·cases h
 | .st fs,t,h=>by
  simp only [Bj] at h;split at h
  ·rename_i l h3;exact ⟨l.toList,by rw [h3],I5 h⟩
  ·cases h
theorem I5 {P:Program}:∀ {ss:List Sh} {l:List Field} {o n:Nat},B7 P ss l o n=true->Mb P ss l o n
 | [],l,o,n,h=>by
  simp only [B7,Z8,List.isEmpty_iff] at h;exact ⟨h.1,Zo h.2⟩
 | s::ss,[],o,n,h=>by simp [B7] at h
 | s::ss,f::r,o,n,h=>by
  simp only [B7,Z8] at h;obtain ⟨⟨h1,h2⟩,h3⟩:=h;exact ⟨f,r,rfl,Zo h1,vP h2,I5 h3⟩
end
theorem Oj {P:Program} {W:World} {base:Nat} {t:TypeId} {k:IntKind} {v:Value} (ht:P.underlying t=some (.int k)) (h:Value.okWide P W .any base t v):∀ cs,v≠.agg cs:=by
 rintro cs rfl;simp only [Value.okWide,ht,Cell.okWide,Cell.ok] at h
theorem ze {P:Program} {W:World} {base:Nat} {t e:TypeId} {v:Value} (ht:P.underlying t=some (.slice e)) (h:Value.okWide P W .any base t v):∀ cs,v≠.agg cs:=by
 rintro cs rfl;simp only [Value.okWide,ht,Cell.okWide,Cell.ok] at h
abbrev Jg:Sh:=.sl (.int .i64)
theorem wf_i64 {n:Int} (h:(Lit.int .i64 n).wf=true) : -9223372036854775808<=n∧n<=9223372036854775807:=by
 simp only [Lit.wf,Z8,decide_eq_true_eq] at h;exact h
def ND (x:Int):Prop:=-9223372036854775808<=x∧x<=9223372036854775807
theorem QZ {d:D} (h:Dat (.int .i64) [d]):∃ k:Int,ND k∧d=di k:=by
 obtain ⟨n,e,hw⟩:=h;simp only [List.cons.injEq,and_true] at e;exact ⟨n,wf_i64 hw,e⟩
theorem Kf {d:D} (h:Dat Jg [d]):∃ l:List Int,d=row l∧∀ x∈l,ND x:=by
 obtain ⟨l,rfl,hl⟩:=GY (f:=fun n=>[di n]) ND (fun ds h=>by
  obtain ⟨n,e,hw⟩:=h;exact ⟨n,e,wf_i64 hw⟩) h
 exact ⟨l,by simp only [row,List.map_eq_flatMap],hl⟩
theorem O0 {d:D} (h:Dat (.sl Jg) [d]):∃ l:List (List Int),V.d d=mat l∧∀ x∈l,∀ y∈x,ND y:=by
 obtain ⟨l,rfl,hl⟩:=GY (f:=fun r=>[row r]) (fun x=>∀ y∈x,ND y) (fun ds h=>by
  have h':=h;obtain ⟨xs,rfl,_⟩:=h';obtain ⟨r,e,hr⟩:=Kf h;exact ⟨r,by rw [e],hr⟩) h
 exact ⟨l,by simp only [lst,List.map_eq_flatMap],hl⟩
def XS:DataW Unit->Value
 | .lit (.int k n)=>.int k n
 | _=>undef
def Sr:DataW Unit->Array Value
 | .agg l=>(l.map XS).toArray
 | _=>#[]
def Vd:DataW Unit->Value
 | .iface _ (.ptr (.agg [.lit (.string l)]))=>.string ⟨l.toArray⟩
 | _=>undef
def MG (cs:Array Value):Obj->Obj
 | .cells _ t frozen=>.cells cs t frozen
 | o=>o
noncomputable def wB (os:Os):World:=
 let w0:=World.holding Tryz.prog os ⟨#[.cells #[Vd Rows.laid_strconv_ErrSyntax] 266,.cells #[Vd Rows.laid_strconv_ErrRange] 266],#[],[]⟩
 let low:=(World.settled Tryz.prog os).heap.size
 { w0 with heap:=((((w0.heap.modify 1 (MG #[.iface 264 (.pointer (some ⟨low,0,none⟩))])).modify 2 (MG #[.iface 264 (.pointer (some ⟨low+1,0,none⟩))])).modify 0 (MG (Sr Rows.laid_internal_strconv_uint64pow10))).modify 3 (MG (Sr Rows.laid_math_bits_deBruijn32tab))).modify 4 (MG (Sr Rows.laid_math_bits_deBruijn64tab)) }
end Go.Vm
