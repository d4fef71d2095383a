/- What the cards of seat r2 share: types by their shapes, arguments as data, the world of the witness. -/
import Derived.Test.YtaiahkcmdnaooaaGreatDoorQBsD
import Derived.Test.YtaiahkcmdnaooaaGreatDoorQJoin
import Derived.Deep.DeepHandedRow
import Derived.Lib.LaidTab
set_option linter.unusedVariables false
set_option linter.unusedSimpArgs false
namespace Go.Vm
open Go Go.Am Go.Vm Go.Proofs Go.Proofs.YtaiahkcmdnaooaaGreatDoor Go.ChangeShapes Go.WideShapes Go.ChangeAt Go.RowKit
theorem Uh : Tryz.prog.globalNamed "internal/strconv.uint64pow10" = some mh := by kernel_rfl
theorem xX:(Tryz.prog.globals[mh]?).map (·.type)=some 255:=af
theorem F6:Tryz.prog.underlying 255=some (.array 20 199):=af
theorem F7:Tryz.prog.underlying 199=some (.int .u64):=af
theorem yA:Tryz.prog.cellsOf 199=1:=af
theorem yz:Tryz.prog.cellsOf 255=20:=af
mutual
/-- Has a type a shape? -/
def D7 (P:Program):Sh->TypeId->Bool
 | .int k,t=>(match P.underlying t with
  | some (.int k')=>decide (k'=k)
  | _=>false) && Nat.beq (P.cellsOf t) 1
 | .bool,t=>(match P.underlying t with
  | some .bool=>true
  | _=>false) && Nat.beq (P.cellsOf t) 1
 | .str,t=>(match P.underlying t with
  | some .string=>true
  | _=>false) && Nat.beq (P.cellsOf t) 1
 | .sl e,t=>(match P.underlying t with
  | some (.slice u)=>Nat.beq (P.cellsOf t) 1 && Nat.blt 0 (P.cellsOf u) && D7 P e u
  | _=>false)
 | .ar n e,t=>(match P.underlying t with
  | some (.array m u)=>Nat.beq m n && Nat.beq (P.cellsOf t) (n * P.cellsOf u) && D7 P e u
  | _=>false)
 | .st fs,t=>(match P.underlying t with
  | some (.struct l)=>EQ P fs l.toList 0 (P.cellsOf t)
  | _=>false)
def EQ (P:Program):List Sh->List Field->Nat->Nat->Bool
 | [],l,o,n=>l.isEmpty && Nat.beq o n
 | s :: ss,l,o,n=>(match l with
  | []=>false
  | f :: r=>Nat.beq f.offset o && D7 P s f.type && EQ P ss r (o+P.cellsOf f.type) n)
end
mutual
theorem qu {P:Program}:∀ {s:Sh} {t:TypeId},D7 P s t=true->Typ P s t
 | .int k,t,h=>by
  simp only [D7,Z8] at h;obtain ⟨h1,h2⟩:=h;split at h1
  ·rename_i h3;obtain rfl:=of_decide_eq_true h1;exact ⟨h3,Zn h2⟩
  ·cases h1
 | .bool,t,h=>by
  simp only [D7,Z8] at h;obtain ⟨h1,h2⟩:=h;split at h1
  ·rename_i h3;exact ⟨h3,Zn h2⟩
  ·cases h1
 | .str,t,h=>by
  simp only [D7,Z8] at h;obtain ⟨h1,h2⟩:=h;split at h1
  ·rename_i h3;exact ⟨h3,Zn h2⟩
  ·cases h1
 | .sl e,t,h=>by
  simp only [D7] at h;split at h
  ·rename_i u h3;simp only [Z8] at h;obtain ⟨⟨h1,h2⟩,h4⟩:=h;exact ⟨u,h3,Zn h1,by have:=h2;simp [Nat.blt] at this;omega,qu h4⟩
  ·cases h
 | .ar n e,t,h=>by
  simp only [D7] at h;split at h
  ·rename_i m u h3;simp only [Z8] at h;obtain ⟨⟨h1,h2⟩,h4⟩:=h;obtain rfl:=Zn h1;exact ⟨u,h3,Zn h2,qu h4⟩
  ·cases h
 | .st fs,t,h=>by
  simp only [D7] at h;split at h
  ·rename_i l h3;exact ⟨l.toList,by rw [h3],Mh h⟩
  ·cases h
theorem Mh {P:Program}:∀ {ss:List Sh} {l:List Field} {o n:Nat},EQ P ss l o n=true->Pn P ss l o n
 | [],l,o,n,h=>by
  simp only [EQ,Z8,List.isEmpty_iff] at h;exact ⟨h.1,Zn h.2⟩
 | s::ss,[],o,n,h=>by simp [EQ] at h
 | s::ss,f::r,o,n,h=>by
  simp only [EQ,Z8] at h;obtain ⟨⟨h1,h2⟩,h3⟩:=h;exact ⟨f,r,rfl,Zn h1,qu h2,Mh h3⟩
end
theorem JI {P:Program} {W:World} {base:Nat} {t:TypeId} {k:IntKind} {v:Value} (ht:P.underlying t=some (.int k)) (h:Value.okWide P W .any base t v):∀ cs,v≠.agg cs:=by
 rintro cs rfl;simp only [Value.okWide,ht,Cell.okWide,Cell.ok] at h
theorem KU {P:Program} {W:World} {base:Nat} {t e:TypeId} {v:Value} (ht:P.underlying t=some (.slice e)) (h:Value.okWide P W .any base t v):∀ cs,v≠.agg cs:=by
 rintro cs rfl;simp only [Value.okWide,ht,Cell.okWide,Cell.ok] at h
def sh4:Sh:=.ar 4 (.int .i8)
def xm:Sh:=.st [.int .u8,.sl sh4]
def PY:Sh:=.st [.int .u8,.int .u8,.int .u8]
abbrev Vk:Sh:=.sl (.int .i64)
theorem wf_u8 {n:Int} (h:(Lit.int .u8 n).wf=true):0<=n∧n<=255:=by
 simp only [Lit.wf,Z8,decide_eq_true_eq] at h;exact h
theorem wf_i8 {n:Int} (h:(Lit.int .i8 n).wf=true) : -128<=n∧n<=127:=by
 simp only [Lit.wf,Z8,decide_eq_true_eq] at h;exact h
theorem XP {d:D} (h:Dat (.int .u8) [d]):∃ k:Nat,k<256∧d=.int .u8 k:=by
 obtain ⟨n,e,hw⟩:=h;simp only [List.cons.injEq,and_true] at e;have hb:=wf_u8 hw;exact ⟨n.toNat,aa,by rw [e,X7 hb.1]⟩
theorem aaO (ds:List D) (h:Dat sh4 ds):∃ x:I4,ds=i4D x∧ok4 x:=by
 obtain ⟨xs,rfl,hl,hx⟩:=h
 match xs,hl,hx with
 | [x1,x2,x3,x4],_,hx=>
  obtain ⟨a,rfl,ha⟩:=hx x1 ag;obtain ⟨b,rfl,hb⟩:=hx x2 ag;obtain ⟨c,rfl,hc⟩:=hx x3 ag;obtain ⟨d,rfl,hd⟩:=hx x4 ag;exact ⟨(a,b,c,d),rfl,wf_i8 ha,wf_i8 hb,wf_i8 hc,wf_i8 hd⟩
theorem vQ {ds:List D} (h:Dat xm ds):∃ (k:Nat) (e:List I4),ds=[.int .u8 k,.sl e.length (e.flatMap i4D)]∧k<256∧∀ x∈e,ok4 x:=by
 obtain ⟨a,b,rfl,⟨n,rfl,hn⟩,a',b',rfl,h2,rfl⟩:=h;have h2':=h2;obtain ⟨xs,rfl,_⟩:=h2';have hb:=wf_u8 hn;obtain ⟨e,he,hq⟩:=Kf (f:=i4D) ok4 aaO h2;exact ⟨n.toNat,e,by simp only [X6,List.cons_append,List.nil_append];rw [he,X7 hb.1],aa,hq⟩
theorem wf_u16 {n:Int} (h:(Lit.int .u16 n).wf=true):0<=n∧n<=65535:=by
 simp only [Lit.wf,Z8,decide_eq_true_eq] at h;exact h
theorem Uz {d:D} (h:Dat (.int .u16) [d]):∃ k:Nat,k<65536∧d=.int .u16 k:=by
 obtain ⟨n,e,hw⟩:=h;simp only [List.cons.injEq,and_true] at e;have hb:=wf_u16 hw;exact ⟨n.toNat,aa,by rw [e,X7 hb.1]⟩
theorem wf_i64 {n:Int} (h:(Lit.int .i64 n).wf=true) : -9223372036854775808<=n∧n<=9223372036854775807:=by
 simp only [Lit.wf,Z8,decide_eq_true_eq] at h;exact h
def aah (x:Int):Prop:=-9223372036854775808<=x∧x<=9223372036854775807
theorem UA {d:D} (h:Dat Vk [d]):∃ l:List Int,d=row l∧∀ x∈l,aah x:=by
 obtain ⟨l,rfl,hl⟩:=Kf (f:=fun n=>[di n]) aah (fun ds h=>by
  obtain ⟨n,e,hw⟩:=h;exact ⟨n,e,wf_i64 hw⟩) h
 exact ⟨l,by simp only [row,List.map_eq_flatMap],hl⟩
theorem Sl {ds:List D} (h:Dat PY ds):∃ x y z:Nat,ds=[.int .u8 x,.int .u8 y,.int .u8 z]∧x<256∧y<256∧z<256:=by
 obtain ⟨a,b,rfl,⟨x,rfl,hx⟩,a',b',rfl,⟨y,rfl,hy⟩,a'',b'',rfl,⟨z,rfl,hz⟩,rfl⟩:=h;have h1:=wf_u8 hx;have h2:=wf_u8 hy;have h3:=wf_u8 hz;refine ⟨x.toNat,y.toNat,z.toNat,?_,aa,aa,aa⟩;rw [X7 h1.1,X7 h2.1,X7 h3.1];rfl
def acF:DataW Unit->Value
 | .lit (.int k n)=>.int k n
 | _=>undef
def VO:DataW Unit->Array Value
 | .agg l=>(l.map acF).toArray
 | _=>#[]
def aaJ:DataW Unit->Value
 | .iface _ (.ptr (.agg [.lit (.string l)]))=>.string ⟨l.toArray⟩
 | _=>undef
def P1 (cs:Array Value):Obj->Obj
 | .cells _ t frozen=>.cells cs t frozen
 | o=>o
noncomputable def iX (os:Os):World:=
 let w0:=World.holding Tryz.prog os ⟨#[.cells #[aaJ Rows.laid_strconv_ErrSyntax] 266,.cells #[aaJ Rows.laid_strconv_ErrRange] 266],#[],[]⟩
 let low:=(World.settled Tryz.prog os).heap.size
 { w0 with heap:=((((w0.heap.modify 1 (P1 #[.iface 264 (.pointer (some ⟨low,0,none⟩))])).modify 2 (P1 #[.iface 264 (.pointer (some ⟨low+1,0,none⟩))])).modify 0 (P1 (VO Rows.laid_internal_strconv_uint64pow10))).modify 3 (P1 (VO Rows.laid_math_bits_deBruijn32tab))).modify 4 (P1 (VO Rows.laid_math_bits_deBruijn64tab)) }
end Go.Vm
