/- Lemmas. -/
import Derived.Test.YtbjigngcncfhmaaGreatDoorQLcA
set_option linter.unusedVariables false
set_option linter.unusedSimpArgs false
namespace Go.Vm
open Go Go.Am Go.Vm Go.Proofs Go.Proofs.YtbjigngcncfhmaaGreatDoor Go.ChangeShapes Go.WideShapes Go.ChangeAt Go.RowKit
variable{n:Int}{ds:List D}
theorem ahw:Tryz.prog.globalNamed "internal/strconv.uint64pow10" = some oG:=by kernel_rfl
theorem VY:(Tryz.prog.globals[oG]?).map (·.type)=some 266:=ag
theorem acD:Tryz.prog.underlying 266=some (.array 20 172):=ag
theorem acC:Tryz.prog.underlying 172=some (.int .u64):=ag
theorem XG:Tryz.prog.cellsOf 172=1:=ag
theorem XH:Tryz.prog.cellsOf 266=20:=ag
mutual
/-- Has a type a shape? -/
def Gi(P:Program):Sh->TypeId->Bool
 | .int k,t=>(match P.underlying t with
  |some (.int k')=>decide (k'=k)
  |_=>false)&&Nat.beq (P.cellsOf t) 1
 | .bool,t=>(match P.underlying t with
  |some .bool=>true
  |_=>false)&&Nat.beq (P.cellsOf t) 1
 | .str,t=>(match P.underlying t with
  |some .string=>true
  |_=>false)&&Nat.beq (P.cellsOf t) 1
 | .sl e,t=>(match P.underlying t with
  |some (.slice u)=>Nat.beq (P.cellsOf t) 1&&Nat.blt 0 (P.cellsOf u)&&Gi P e u
  |_=>false)
 | .ar n e,t=>(match P.underlying t with
  |some (.array m u)=>Nat.beq m n&&Nat.beq (P.cellsOf t) (n*P.cellsOf u)&&Gi P e u
  |_=>false)
 | .st fs,t=>(match P.underlying t with
  |some (.struct l)=>G4 P fs l.toList 0 (P.cellsOf t)
  |_=>false)
def G4(P:Program):List Sh->List Field->Nat->Nat->Bool
 |[],l,o,n=>l.isEmpty&&Nat.beq o n
 | s::ss,l,o,n=>(match l with
  |[]=>false
  |f::r=>Nat.beq f.offset o&&Gi P s f.type&&G4 P ss r (o+P.cellsOf f.type) n)
end
mutual
theorem AP{P:Program}:∀{s:Sh}{t:TypeId},Gi P s t=true->Typ P s t
 | .int k,t,h=>by
  simp only[Gi,Z7]at h;obtain⟨h1,h2⟩:=h;split at h1
  .rename_i h3;obtain rfl:=of_decide_eq_true h1;exact⟨h3,Zl h2⟩
  .cases h1
 | .bool,t,h=>by
  simp only[Gi,Z7]at h;obtain⟨h1,h2⟩:=h;split at h1
  .rename_i h3;exact⟨h3,Zl h2⟩
  .cases h1
 | .str,t,h=>by
  simp only[Gi,Z7]at h;obtain⟨h1,h2⟩:=h;split at h1
  .rename_i h3;exact⟨h3,Zl h2⟩
  .cases h1
 | .sl e,t,h=>by
  simp only[Gi]at h;split at h
  .rename_i u h3;simp only[Z7]at h;obtain⟨⟨h1,h2⟩,h4⟩:=h;exact⟨u,h3,Zl h1,by have:=h2;simp[Nat.blt]at this;omega,AP h4⟩
  .cases h
 | .ar n e,t,h=>by
  simp only[Gi]at h;split at h
  .rename_i m u h3;simp only[Z7]at h;obtain⟨⟨h1,h2⟩,h4⟩:=h;obtain rfl:=Zl h1;exact⟨u,h3,Zl h2,AP h4⟩
  .cases h
 | .st fs,t,h=>by
  simp only[Gi]at h;split at h
  .rename_i l h3;exact⟨l.toList,by rw[h3],OH h⟩
  .cases h
theorem OH{P:Program}:∀{ss:List Sh}{l:List Field}{o n:Nat},G4 P ss l o n=true->SD P ss l o n
 | [],l,o,n,h=>by
  simp only[G4,Z7,List.isEmpty_iff]at h;exact⟨h.1,Zl h.2⟩
 |s::ss,[],o,n,h=>by simp[G4]at h
 | s::ss,f::r,o,n,h=>by
  simp only[G4,Z7]at h;obtain⟨⟨h1,h2⟩,h3⟩:=h;exact⟨f,r,rfl,Zl h1,AP h2,OH h3⟩
end
theorem wf_u8(h:(Lit.int .u8 n).wf=true):0<=n∧n<=255:=by simp only[Lit.wf,Z7,decide_eq_true_eq]at h;exact h
theorem wf_i8(h:(Lit.int .i8 n).wf=true): -128<=n∧n<=127:=by simp only[Lit.wf,Z7,decide_eq_true_eq]at h;exact h
def ahq:DataW Unit->Value
 |.lit (.int k n)=>.int k n
 |_=>undef
def acO:DataW Unit->Array Value
 |.agg l=>(l.map ahq).toArray
 |_=>#[]
def afM:DataW Unit->Value
 |.iface _ (.ptr (.agg [.lit (.string l)]))=>.string ⟨l.toArray⟩
 |_=>undef
def TN(cs:Array Value):Obj->Obj
 |.cells _ t frozen=>.cells cs t frozen
 |o=>o
noncomputable def By(os:Os):World:=
 let w0:=World.holding Tryz.prog os ⟨#[.cells #[afM Rows.laid_strconv_ErrSyntax] 278,.cells #[afM Rows.laid_strconv_ErrRange] 278],#[],[]⟩
 let low:=(World.settled Tryz.prog os).heap.size
 {w0 with heap:=((((w0.heap.modify 1 (TN #[.iface 276 (.pointer (some ⟨low,0,none⟩))])).modify 2 (TN #[.iface 276 (.pointer (some ⟨low+1,0,none⟩))])).modify 0 (TN (acO Rows.laid_internal_strconv_uint64pow10))).modify 3 (TN (acO Rows.laid_math_bits_deBruijn32tab))).modify 4 (TN (acO Rows.laid_math_bits_deBruijn64tab))}
def abX:Sh:=.ar 4 (.st [.int .i8,.int .u8])
def ae8(x:Int×Nat):List D:=[.int .i8 x.1,.int .u8 x.2]
theorem uv(h:Dat (.st [.int .i8,.int .u8]) ds):∃x:Int×Nat,ds=ae8 x∧(-128<=x.1∧x.1<=127)∧x.2<256:=by obtain⟨a,b,rfl,⟨n,rfl,hn⟩,a',b',rfl,h2,rfl⟩:=h;obtain⟨m,rfl,hm⟩:=h2;have b1:=wf_i8 hn;have b2:=wf_u8 hm;exact⟨(n,m.toNat),by simp[ae8,Int.toNat_of_nonneg b2.1],b1,by simp only;omega⟩
theorem DL(h:Dat abX ds):∃e:List (Int×Nat),pOk e∧ds.map V.d=zx e:=by
 obtain⟨xs,rfl,hl,hx⟩:=h
 match xs,hl,hx with
 | [x1,x2,x3,x4],_,hx=>
  obtain⟨a,rfl,ha⟩:=uv (hx x1 ac);obtain⟨b,rfl,hb⟩:=uv (hx x2 ac);obtain⟨c,rfl,hc⟩:=uv (hx x3 ac);obtain⟨d,rfl,hd⟩:=uv (hx x4 ac);refine⟨[a,b,c,d],⟨rfl,λx hm=>?_⟩,rfl⟩;simp only[Zu,Y1,or_false]at hm;rcases hm with rfl|rfl|rfl|rfl<;>assumption
def acW:Sh:=.ar 4 (.int .i8)
def TI:Sh:=.st [.int .u8,.sl acW,.bool]
theorem WV(ds:List D)(h:Dat acW ds):∃x:I4,ds=i4D x∧ok4 x:=by
 obtain⟨xs,rfl,hl,hx⟩:=h
 match xs,hl,hx with
 | [x1,x2,x3,x4],_,hx=>
  obtain⟨a,rfl,ha⟩:=hx x1 ac;obtain⟨b,rfl,hb⟩:=hx x2 ac;obtain⟨c,rfl,hc⟩:=hx x3 ac;obtain⟨d,rfl,hd⟩:=hx x4 ac;exact⟨(a,b,c,d),rfl,wf_i8 ha,wf_i8 hb,wf_i8 hc,wf_i8 hd⟩
theorem WT(h:Dat TI ds):∃(k:Nat)(e:List I4)(b:Bool),ds=[.int .u8 k,.sl e.length (e.flatMap i4D),.bool b]∧k<256∧∀x∈e,ok4 x:=by obtain⟨a,b,rfl,⟨n,rfl,hn⟩,a',b',rfl,h2,_,_,rfl,⟨c,rfl⟩,rfl⟩:=h;have h2':=h2;obtain⟨xs,rfl,_⟩:=h2';have hb:=wf_u8 hn;obtain⟨e,he,hq⟩:=WU (f:=i4D) ok4 WV h2;exact⟨n.toNat,e,c,by simp only[Zm,List.cons_append,List.nil_append];rw[he,Int.toNat_of_nonneg hb.1],aa,hq⟩
def TG:Sh:=.st [TI,.ar 4 abX]
theorem WS(h:Dat TG ds):∃(k:Nat)(e:List I4)(b:Bool)(gs:List (List (Int×Nat))),k<256∧(∀x∈e,ok4 x)∧Cr gs∧ds.map V.d=r9 k e b gs:=by
 obtain⟨a,b,rfl,h1,a',b',rfl,h2,rfl⟩:=h;obtain⟨k,e,c,rfl,hk,he⟩:=WT h1;obtain⟨xs,rfl,hl,hx⟩:=h2
 match xs,hl,hx with
 | [x1,x2,x3,x4],_,hx=>
  obtain⟨g1,o1,e1⟩:=DL (hx x1 ac);obtain⟨g2,o2,e2⟩:=DL (hx x2 ac);obtain⟨g3,o3,e3⟩:=DL (hx x3 ac);obtain⟨g4,o4,e4⟩:=DL (hx x4 ac);refine⟨k,e,c,[g1,g2,g3,g4],hk,he,⟨rfl,λg hg=>?_⟩,?_⟩
  .simp only[Zu,Y1,or_false]at hg;rcases hg with rfl|rfl|rfl|rfl<;>assumption
  .simp only[List.flatten_cons,List.flatten_nil,Zm,Yw,e1,e2,e3,e4,r9,Xy,List.flatMap_nil];rfl
def ae0:Sh:=.st [acW,.st [.int .i8,.int .u8]]
theorem adV(h:Dat ae0 ds):∃(x:I4)(a:Int)(b:Nat),ok4 x∧(-128<=a∧a<=127)∧b<256∧ds.map V.d=[i8V x.1,i8V x.2.1,i8V x.2.2.1,i8V x.2.2.2,.d (.int .i8 a),.d (.int .u8 b)]:=by obtain⟨a,b,rfl,h1,a',b',rfl,h2,rfl⟩:=h;obtain⟨x,rfl,hx⟩:=WV _ h1;obtain⟨y,rfl,y1,y2⟩:=uv h2;exact⟨x,y.1,y.2,hx,y1,y2,rfl⟩
theorem adW{d:D}(h:Dat (.int .i8) [d]):∃n:Int,(-128<=n∧n<=127)∧d=.int .i8 n:=by obtain⟨n,e,hn⟩:=h;obtain rfl:=(List.cons.inj e).1;exact⟨n,wf_i8 hn,rfl⟩
end Go.Vm
