/- Lemmas for walking through texts: what operations find of known values; loops; slices as lists. -/
import Derived.Test.YtaiahkcmdnaooaaGreatDoorQVmB
set_option linter.unusedVariables false
set_option linter.unusedSimpArgs false
namespace Go.Vm
open Go Go.Am
@[simp] theorem qS (v:V) (k:V->Prop):bnd (some v) k=k v:=rfl
theorem QN {p:Prop} [Decidable p] (hp:p) (x y:V):jb (.d (.bool (decide p))) x y=some x:=by simp [jb,hp]
theorem TK {p:Prop} [Decidable p] (hp:¬ p) (x y:V):jb (.d (.bool (decide p))) x y=some y:=by simp [jb,hp]
@[simp low] theorem YM (b:Bool) (x y:V):jb (.d (.bool b)) x y=some (if b=true then x else y):=by cases b <;> rfl
@[simp] theorem abF (l:List V) (i:Nat) (k:V->Prop):ext (.tup l) i k=bnd l[i]? k:=rfl
theorem JD {k:List V->Hp->Prop} {T:(List V->Hp->Prop)->Prop} {l:List V} {h:Hp} (hT:∀ q,T q=q l h):jn k T=k l h:=hT k
@[simp] theorem Nb (x:V) (l:List V):ge (x::l) 0=x:=rfl
@[simp] theorem abB (x:V) (l:List V) (n:Nat):ge (x::l) (n+1)=ge l n:=rfl
@[simp] theorem acO (x y:V) (l:List V):ge (x::y::l) 1=y:=rfl
@[simp] theorem acN (x y z:V) (l:List V):ge (x::y::z::l) 2=z:=rfl
@[simp] theorem aaD (x y z u:V) (l:List V):ge (x::y::z::u::l) 3=u:=rfl
@[simp] theorem ji (i:Nat) (q:List V->Hp->Prop) (r:List (Exit × (List V->Hp->Prop))) (l:List V) (h:Hp):exK ((.exit i,q)::r) (.exit i) l h=q l h:=by
 simp only [exK,O0,Xu]
@[simp] theorem yi (q:List V->Hp->Prop) (r:List (Exit × (List V->Hp->Prop))) (l:List V) (h:Hp):exK ((.ret,q)::r) .ret l h=q l h:=rfl
@[simp] theorem u9 (i:Nat) (p:List V->Hp->Prop) (r:List (Exit × (List V->Hp->Prop))) (l:List V) (h:Hp):exK ((.exit i,p)::r) .ret l h=exK r .ret l h:=rfl
theorem am {step:aQ} {clr:List Nat} {h0:Hp} {l:List V} {h:Hp} {k:KL} (hs:step l h (lpK clr h0 (fun l h=>lp step clr h0 l h k) k)):lp step clr h0 l h k:=by
 intro I hI;refine hI l h ⟨_,hs,fun ex l' h' hq=>?_⟩;cases ex
 case normal=>exact ⟨hq.1,hq.2 I hI⟩
 all_goals exact hq
@[simp] theorem WK (clr:List Nat) (h0:Hp) (I:List V->Hp->Prop) (k:KL) (l:List V) (h:Hp):lpK clr h0 I k .normal l h=(clean clr l h=true∧I l (aC clr 0 h0 h)):=rfl
@[simp] theorem aaq (clr:List Nat) (h0:Hp) (I:List V->Hp->Prop) (k:KL) (i:Nat) (l:List V) (h:Hp):lpK clr h0 I k (.exit i) l h=k (.exit i) l h:=rfl
@[simp] theorem abw (clr:List Nat) (h0:Hp) (I:List V->Hp->Prop) (k:KL) (l:List V) (h:Hp):lpK clr h0 I k .ret l h=k .ret l h:=rfl
theorem Fb:∀ l:List V,fF [] l=true:=by
 intro l
 have key:∀ x:V,kZ [] x=true:=by
  intro x
  induction x using V.rec (motive_2:=fun l=>fF [] l=true) with
  | agg l ih=>trivial
  | tup l ih=>trivial
  | fn g a b iha ihb=>grind [kZ]
  | ifc t x ih=>trivial
  | nil=>rfl
  | cons x l ih ihl=>grind [fF]
  | _=>rfl
 induction l with
 | nil=>rfl
 | cons x l ih=>grind [fF]
theorem Cx:∀ (h:Hp) (i:Nat),qG [] i h=true
 | [],_=>rfl
 | (_,b)::h,i=>by
  simp only [qG,Cx h,V5,Xq,Y7];right;cases b <;> simp [offB,Fb]
@[simp] theorem clean_nil (l:List V) (h:Hp):clean [] l h=true:=by simp [clean,Fb,Cx]
theorem E6:∀ (i:Nat) (h0 h:Hp),h.length=h0.length->aC [] i h0 h=h
 | _,[],h,_=>by cases h <;> rfl
 | _,_::_,[],_=>rfl
 | i,(e0,b0)::h0,(e,b)::h,hl=>by
  simp only [aC,eC,if_true];rw [E6 (i+1) h0 h (by grind)]
theorem wrap_i64 {n:Int} (h : -9223372036854775808<=n∧n<=9223372036854775807):IntKind.wrap .i64 n=n:=by
 have e1:(2:Int) ^ 64=18446744073709551616:=ae;have e2:(2:Int) ^ (64-1)=9223372036854775808:=ae
 grind [IntKind.wrap,IntKind.bits,IntKind.signed]
theorem KH {k:IntKind} (hk:k.signed=false) {n:Int} (h:0<=n∧n<2 ^ k.bits):k.wrap n=n:=by
 grind [IntKind.wrap,Int.emod_eq_of_lt]
theorem wrap_u64 {n:Int} (h:0<=n∧n<18446744073709551616):IntKind.wrap .u64 n=n:=KH rfl h
theorem wrap_u32 {n:Int} (h:0<=n∧n<4294967296):IntKind.wrap .u32 n=n:=KH rfl h
theorem EL (n:Int):IntKind.wrap .u64 n=n % 18446744073709551616:=by
 rfl
@[simp] theorem abQ (k:IntKind) (a b:Int):biI .lss (.d (.int k a)) (.d (.int k b))=some (.d (.bool (decide (a<b)))):=by simp [biI,gN,lI,iD]
@[simp] theorem abR (k:IntKind) (a b:Int):biI .leq (.d (.int k a)) (.d (.int k b))=some (.d (.bool (decide (a<=b)))):=by simp [biI,gN,lI,iD]
@[simp] theorem abS (k:IntKind) (a b:Int):biI .gtr (.d (.int k a)) (.d (.int k b))=some (.d (.bool (decide (b<a)))):=by simp [biI,gN,lI,iD]
@[simp] theorem abT (k:IntKind) (a b:Int):biI .geq (.d (.int k a)) (.d (.int k b))=some (.d (.bool (decide (b<=a)))):=by simp [biI,gN,lI,iD]
@[simp] theorem abU (k:IntKind) (a b:Int):biI .eql (.d (.int k a)) (.d (.int k b))=some (.d (.bool (decide (a=b)))):=by simp [biI,gN,lI,iD];rfl
@[simp] theorem abP (k:IntKind) (a b:Int):biI .neq (.d (.int k a)) (.d (.int k b))=some (.d (.bool (decide (a≠b)))):=by simp [biI,gN,lI,iD];rfl
theorem vR (k:IntKind) (a b:Int):biI .add (.d (.int k a)) (.d (.int k b))=some (.d (.int k (k.wrap (a+b)))):=by simp [biI,gN,lI,iD]
theorem tR (k:IntKind) (a b:Int):biI .sub (.d (.int k a)) (.d (.int k b))=some (.d (.int k (k.wrap (a-b)))):=by simp [biI,gN,lI,iD]
theorem mO (k:IntKind) (a b:Int):biI .mul (.d (.int k a)) (.d (.int k b))=some (.d (.int k (k.wrap (a*b)))):=by simp [biI,gN,lI,iD]
@[simp] theorem Nx (k l:IntKind) (n:Int):cvI k (.d (.int l n))=some (.d (.int k (k.wrap n))):=rfl
@[simp] theorem abW (a b:Bool):biB .eql (.d (.bool a)) (.d (.bool b))=some (.d (.bool (a == b))):=rfl
@[simp] theorem abV (a b:Bool):biB .neq (.d (.bool a)) (.d (.bool b))=some (.d (.bool (a != b))):=rfl
@[simp] theorem abb (b:Bool):unV .not (.d (.bool b))=some (.d (.bool (!b))):=rfl
def lst {α:Type} (f:α->D) (l:List α):V:=.d (.sl l.length (l.map f))
section
variable {α:Type} (f:α->D) (l:List α)
@[simp] theorem aat:bm (lst f l)=some (I l.length):=rfl
theorem G3 (h:Hp) {k:IntKind} {i:Int} {j:Nat} (hj:i=j) (hl:j<l.length):ixV h 1 (lst f l) (.d (.int k i))=some (.dptr (l.map f) j):=by
 subst hj;simp only [ixV,lst];rw [if_pos ⟨aa,aa,ag⟩];simp
theorem WQ (h:Hp) {j:Nat} (hl:j<l.length):ld1 h (.dptr (l.map f) j)=some (.d (f l[j])):=by
 simp [ld1,hl]
end
section
variable {α:Type} (f:α->D) (l:List α)
theorem Dz (d top:Nat):boV d top none=some d:=rfl
theorem vh {d top j:Nat} {i:Int} {k:IntKind} (hi:i=j) (hj:j<=top):boV d top (some (.d (.int k i)))=some j:=by
 subst hi;simp only [boV];rw [if_pos ⟨aa,aa⟩];simp
theorem PT {h:Hp} {lo hi:Option V} {i j:Nat} (h0:0<l.length) (hj:boV l.length l.length hi=some j) (hi2:boV 0 j lo=some i) (hij:i<=j) (hjl:j<=l.length):slV h 1 (lst f l) lo hi=some (lst f ((l.drop i).take (j-i))):=by
 simp only [slV,lst,hj,hi2];rw [if_pos ⟨ag,h0⟩];simp only [Yb,List.map_take,List.map_drop,Zh,Xw];rw [Yu aa]
theorem ZZ {h:Hp} {i:Int} {j:Nat} (h0:0<l.length) (hi:i=j) (hj:j<=l.length):slV h 1 (lst f l) none (some (I i))=some (lst f (l.take j)):=by
 rw [PT f l h0 (vh hi hj) (Dz 0 j) (Yp _) hj];simp
theorem ZY {h:Hp} {i:Int} {j:Nat} (h0:0<l.length) (hi:i=j) (hj:j<=l.length):slV h 1 (lst f l) (some (I i)) none=some (lst f (l.drop j)):=by
 rw [PT f l h0 (Dz _ _) (vh hi hj) hj (Z7 _)];rw [Zx ag]
end
@[simp] theorem acb (h:Hp) (x:D):aF h (.d x)=some (.d (norm x),h):=by rfl
@[simp] theorem aal (k:IntKind) (n:Int):norm (.int k n)=.int k n:=rfl
@[simp] theorem YO (b:Bool):norm (.bool b)=.bool b:=rfl
@[simp] theorem QX (s:List UInt8):norm (.str s)=.str s:=rfl
@[simp] theorem abt (n:Nat) (l:List D):norm (.sl n l)=.sl n l:=rfl
@[simp] theorem aak:norm (.pl (.slice none 0 0))=.sl 0 []:=rfl
@[simp] theorem sE {α:Type} (h:Hp) (f:α->D) (l:List α):aF h (lst f l)=some (lst f l,h):=by rfl
@[simp] theorem YI (h:Hp):ai h []=some ([],h):=by rfl
theorem nX {D:pF} {h h':Hp} {f:FuncId} {args:List V} {v:V} {s:Nat} {k:V->Hp->Prop} (hc:D f args h v h') (hk:k v h') (hn:∀ n cells ex len cap,v≠.new n cells ex len cap) (hn2:∀ n,v≠.cut n:=by simp) (hn3:∀ n cells ex len cap y,v≠.tup [.new n cells ex len cap,.d y]:=by intro _ _ _ _ _ _ h;cases h):cai D h (.fn f [] []) args s k:=by
 grind [cai]
theorem SD {h h':Hp} {f:FuncId} {args:List V} {n len cap:Nat} {cells:List D} {y:D} {s e:Nat} {b:Bk} {ex:Bool} {k:V->Hp->Prop} {DD:pF} (hc:DD f args h (.tup [.new n cells ex len cap,.d y]) h') (hs:h'[s]? = some (e,b))
  (hk:k (.tup [.ref s (e+1) 0 len cap cells.length,.d y]) (h'.set s (e+1,.data n cells ex false))):cai DD h (.fn f [] []) args s k:=by
 grind [cai,new]
theorem iP {h h':Hp} {f:FuncId} {args:List V} {n len cap:Nat} {cells:List D} {s e:Nat} {b:Bk} {ex:Bool} {k:V->Hp->Prop} {DD:pF} (hc:DD f args h (.new n cells ex len cap) h') (hs:h'[s]? = some (e,b))
  (hk:k (.ref s (e+1) 0 len cap cells.length) (h'.set s (e+1,.data n cells ex false))):cai DD h (.fn f [] []) args s k:=by
 grind [cai,new]
theorem L3 {C:pG} {h h':Hp} {f:FuncId} {args ds:List V} {v:V} {k:V->Hp->Prop} (hs:ai h args=some (ds,h')) (hc:C f ds v) (hk:k v (if gW v then h else h')):cal C h (.fn f [] []) args k:=by
 grind [cal]
theorem aaW {C:pG} {h:Hp} {f:FuncId} {args:List V} {v:V} {k:V->Hp->Prop} (hc:C f args v) (hs:ai h args=some (args,h)) (hk:k v h):cal C h (.fn f [] []) args k:=
 L3 hs hc (by grind)
theorem QS {x:D} {h:Hp} (hx:norm x=x):out (.d x) (.d x) h:=⟨h,by simp [hx]⟩
theorem TN {α:Type} (f:α->D) (l:List α) (h:Hp):out (lst f l) (lst f l) h:=⟨h,ag⟩
@[simp] theorem abo (k:IntKind) (n:Int) (h:Hp):out (.d (.int k n)) (.d (.int k n)) h:=QS rfl
@[simp] theorem xA (b:Bool) (h:Hp):out (.d (.bool b)) (.d (.bool b)) h:=QS rfl
theorem Gx {k:IntKind} {a b:Nat} {l:IntKind} (hb:b<=k.bits):biI .shr (.d (.int k a)) (.d (.int l b))=some (.d (.int k ((a / 2 ^ b:Nat):Int))):=by
 have h1:¬ ((b:Int)<0):=aa
 grind [biI,gN,lI,iD]
theorem vT {a b:Nat} (h:a+b<18446744073709551616):biI .add (.d (.int .u64 a)) (.d (.int .u64 b))=some (.d (.int .u64 ((a+b:Nat):Int))):=by
 rw [vR,wrap_u64 aa];simp
theorem Bo {a b:Nat} (h:a*b<18446744073709551616):biI .mul (.d (.int .u64 a)) (.d (.int .u64 b))=some (.d (.int .u64 ((a*b:Nat):Int))):=by
 grind [mO,wrap_u64]
theorem XT {k:IntKind} {a:Nat} (h:a<18446744073709551616):cvI .u64 (.d (.int k a))=some (.d (.int .u64 a)):=by
 rw [Nx,wrap_u64 aa]
section
variable {α:Type} {f:α->D} {l:List α} {h:Hp} {s e:Nat} {ex fr:Bool}
end
end Go.Vm
