/- Lemmas for walking through texts: what operations find of known values; loops; slices as lists. -/
import Derived.Test.YtaiahkcmdnaooaaGreatDoorQVmB
set_option linter.unusedVariables false
set_option linter.unusedSimpArgs false
namespace Go.Vm
open Go Go.Am
@[simp] theorem pP (v:V) (k:V->Prop):bnd (some v) k=k v:=rfl
theorem Pr {p:Prop} [Decidable p] (hp:p) (x y:V):iH (.d (.bool (decide p))) x y=some x:=by simp [iH,hp]
theorem Sn {p:Prop} [Decidable p] (hp:¬ p) (x y:V):iH (.d (.bool (decide p))) x y=some y:=by simp [iH,hp]
@[simp low] theorem VY (b:Bool) (x y:V):iH (.d (.bool b)) x y=some (if b=true then x else y):=by cases b <;> rfl
@[simp] theorem aav (l:List V) (i:Nat) (k:V->Prop):ext (.tup l) i k=bnd l[i]? k:=rfl
theorem Ia {k:List V->Hp->Prop} {T:(List V->Hp->Prop)->Prop} {l:List V} {h:Hp} (hT:∀ q,T q=q l h):jn k T=k l h:=hT k
@[simp] theorem LE (x:V) (l:List V):ge (x::l) 0=x:=rfl
@[simp] theorem aar (x:V) (l:List V) (n:Nat):ge (x::l) (n+1)=ge l n:=rfl
@[simp] theorem abw (x y:V) (l:List V):ge (x::y::l) 1=y:=rfl
@[simp] theorem abv (x y z:V) (l:List V):ge (x::y::z::l) 2=z:=rfl
@[simp] theorem YP (x y z u:V) (l:List V):ge (x::y::z::u::l) 3=u:=rfl
@[simp] theorem iN (i:Nat) (q:List V->Hp->Prop) (r:List (Exit × (List V->Hp->Prop))) (l:List V) (h:Hp):exK ((.exit i,q)::r) (.exit i) l h=q l h:=by
 simp only [exK,QD,Xo]
@[simp] theorem w7 (q:List V->Hp->Prop) (r:List (Exit × (List V->Hp->Prop))) (l:List V) (h:Hp):exK ((.ret,q)::r) .ret l h=q l h:=rfl
@[simp] theorem t7 (i:Nat) (p:List V->Hp->Prop) (r:List (Exit × (List V->Hp->Prop))) (l:List V) (h:Hp):exK ((.exit i,p)::r) .ret l h=exK r .ret l h:=rfl
theorem av {step:bj} {clr:List Nat} {h0:Hp} {l:List V} {h:Hp} {k:KL} (hs:step l h (lpK clr h0 (fun l h=>lp step clr h0 l h k) k)):lp step clr h0 l h k:=by
 intro I hI;refine hI l h ⟨_,hs,fun ex l' h' hq=>?_⟩;cases ex
 case normal=>exact ⟨hq.1,hq.2 I hI⟩
 all_goals exact hq
@[simp] theorem U4 (clr:List Nat) (h0:Hp) (I:List V->Hp->Prop) (k:KL) (l:List V) (h:Hp):lpK clr h0 I k .normal l h=(clean clr l h=true∧I l (aG clr 0 h0 h)):=rfl
@[simp] theorem YB (clr:List Nat) (h0:Hp) (I:List V->Hp->Prop) (k:KL) (i:Nat) (l:List V) (h:Hp):lpK clr h0 I k (.exit i) l h=k (.exit i) l h:=rfl
@[simp] theorem aal (clr:List Nat) (h0:Hp) (I:List V->Hp->Prop) (k:KL) (l:List V) (h:Hp):lpK clr h0 I k .ret l h=k .ret l h:=rfl
theorem DU:∀ l:List V,fE [] l=true:=by
 intro l
 have key:∀ x:V,k9 [] x=true:=by
  intro x
  induction x using V.rec (motive_2:=fun l=>fE [] l=true) with
  | agg l ih=>trivial
  | tup l ih=>trivial
  | fn g a b iha ihb=>grind [k9]
  | ifc t x ih=>trivial
  | nil=>rfl
  | cons x l ih ihl=>grind [fE]
  | _=>rfl
 induction l with
 | nil=>rfl
 | cons x l ih=>grind [fE]
theorem HK:∀ (h:Hp) (i:Nat),pG [] i h=true
 | [],_=>rfl
 | (_,b)::h,i=>by
  simp only [pG,HK h,V3,Xk,Y5];right;cases b <;> simp [offB,DU]
@[simp] theorem clean_nil (l:List V) (h:Hp):clean [] l h=true:=by simp [clean,DU,HK]
theorem DL:∀ (i:Nat) (h0 h:Hp),h.length=h0.length->aG [] i h0 h=h
 | _,[],h,_=>by cases h <;> rfl
 | _,_::_,[],_=>rfl
 | i,(e0,b0)::h0,(e,b)::h,hl=>by
  simp only [aG,eh,if_true];rw [DL (i+1) h0 h (by grind)]
theorem wrap_i64 {n:Int} (h : -9223372036854775808<=n∧n<=9223372036854775807):IntKind.wrap .i64 n=n:=by
 have e1:(2:Int) ^ 64=18446744073709551616:=ae;have e2:(2:Int) ^ (64-1)=9223372036854775808:=ae
 grind [IntKind.wrap,IntKind.bits,IntKind.signed]
theorem Je {k:IntKind} (hk:k.signed=false) {n:Int} (h:0<=n∧n<2 ^ k.bits):k.wrap n=n:=by
 grind [IntKind.wrap,Int.emod_eq_of_lt]
theorem wrap_u64 {n:Int} (h:0<=n∧n<18446744073709551616):IntKind.wrap .u64 n=n:=Je rfl h
theorem wrap_u32 {n:Int} (h:0<=n∧n<4294967296):IntKind.wrap .u32 n=n:=Je rfl h
theorem Dk (n:Int):IntKind.wrap .u64 n=n % 18446744073709551616:=by
 rfl
@[simp] theorem aaG (k:IntKind) (a b:Int):biI .lss (.d (.int k a)) (.d (.int k b))=some (.d (.bool (decide (a<b)))):=by simp [biI,gr,kG,ii]
@[simp] theorem aaH (k:IntKind) (a b:Int):biI .leq (.d (.int k a)) (.d (.int k b))=some (.d (.bool (decide (a<=b)))):=by simp [biI,gr,kG,ii]
@[simp] theorem aaI (k:IntKind) (a b:Int):biI .gtr (.d (.int k a)) (.d (.int k b))=some (.d (.bool (decide (b<a)))):=by simp [biI,gr,kG,ii]
@[simp] theorem aaJ (k:IntKind) (a b:Int):biI .geq (.d (.int k a)) (.d (.int k b))=some (.d (.bool (decide (b<=a)))):=by simp [biI,gr,kG,ii]
@[simp] theorem aaK (k:IntKind) (a b:Int):biI .eql (.d (.int k a)) (.d (.int k b))=some (.d (.bool (decide (a=b)))):=by simp [biI,gr,kG,ii];rfl
@[simp] theorem aaF (k:IntKind) (a b:Int):biI .neq (.d (.int k a)) (.d (.int k b))=some (.d (.bool (decide (a≠b)))):=by simp [biI,gr,kG,ii];rfl
theorem uN (k:IntKind) (a b:Int):biI .add (.d (.int k a)) (.d (.int k b))=some (.d (.int k (k.wrap (a+b)))):=by simp [biI,gr,kG,ii]
theorem sG (k:IntKind) (a b:Int):biI .sub (.d (.int k a)) (.d (.int k b))=some (.d (.int k (k.wrap (a-b)))):=by simp [biI,gr,kG,ii]
theorem lY (k:IntKind) (a b:Int):biI .mul (.d (.int k a)) (.d (.int k b))=some (.d (.int k (k.wrap (a*b)))):=by simp [biI,gr,kG,ii]
@[simp] theorem LZ (k l:IntKind) (n:Int):cvI k (.d (.int l n))=some (.d (.int k (k.wrap n))):=rfl
@[simp] theorem aaM (a b:Bool):biB .eql (.d (.bool a)) (.d (.bool b))=some (.d (.bool (a == b))):=rfl
@[simp] theorem aaL (a b:Bool):biB .neq (.d (.bool a)) (.d (.bool b))=some (.d (.bool (a != b))):=rfl
@[simp] theorem ZR (b:Bool):unV .not (.d (.bool b))=some (.d (.bool (!b))):=rfl
def lst {α:Type} (f:α->D) (l:List α):V:=.d (.sl l.length (l.map f))
section
variable {α:Type} (f:α->D) (l:List α)
@[simp] theorem YE:bC (lst f l)=some (I l.length):=rfl
theorem J6 (h:Hp) {k:IntKind} {i:Int} {j:Nat} (hj:i=j) (hl:j<l.length):ixV h 1 (lst f l) (.d (.int k i))=some (.dptr (l.map f) j):=by
 subst hj;simp only [ixV,lst];rw [if_pos ⟨aa,aa,af⟩];simp
theorem U8 (h:Hp) {j:Nat} (hl:j<l.length):ld1 h (.dptr (l.map f) j)=some (.d (f l[j])):=by
 simp [ld1,hl]
end
section
variable {α:Type} (f:α->D) (l:List α)
theorem Ci (d top:Nat):boV d top none=some d:=rfl
theorem ug {d top j:Nat} {i:Int} {k:IntKind} (hi:i=j) (hj:j<=top):boV d top (some (.d (.int k i)))=some j:=by
 subst hi;simp only [boV];rw [if_pos ⟨aa,aa⟩];simp
theorem Om {h:Hp} {lo hi:Option V} {i j:Nat} (h0:0<l.length) (hj:boV l.length l.length hi=some j) (hi2:boV 0 j lo=some i) (hij:i<=j) (hjl:j<=l.length):slV h 1 (lst f l) lo hi=some (lst f ((l.drop i).take (j-i))):=by
 simp only [slV,lst,hj,hi2];rw [if_pos ⟨af,h0⟩];simp only [X7,List.map_take,List.map_drop,Zi,Xr];rw [Yt aa]
theorem XK {h:Hp} {i:Int} {j:Nat} (h0:0<l.length) (hi:i=j) (hj:j<=l.length):slV h 1 (lst f l) none (some (I i))=some (lst f (l.take j)):=by
 rw [Om f l h0 (ug hi hj) (Ci 0 j) (Yn _) hj];simp
theorem XJ {h:Hp} {i:Int} {j:Nat} (h0:0<l.length) (hi:i=j) (hj:j<=l.length):slV h 1 (lst f l) (some (I i)) none=some (lst f (l.drop j)):=by
 rw [Om f l h0 (Ci _ _) (ug hi hj) hj (Z7 _)];rw [Zx af]
end
@[simp] theorem aaZ (h:Hp) (x:D):aI h (.d x)=some (.d (norm x),h):=by rfl
@[simp] theorem XW (k:IntKind) (n:Int):norm (.int k n)=.int k n:=rfl
@[simp] theorem V0 (b:Bool):norm (.bool b)=.bool b:=rfl
@[simp] theorem PC (s:List UInt8):norm (.str s)=.str s:=rfl
@[simp] theorem aai (n:Nat) (l:List D):norm (.sl n l)=.sl n l:=rfl
@[simp] theorem XV:norm (.pl (.slice none 0 0))=.sl 0 []:=rfl
@[simp] theorem pu {α:Type} (h:Hp) (f:α->D) (l:List α):aI h (lst f l)=some (lst f l,h):=by rfl
@[simp] theorem VU (h:Hp):ai h []=some ([],h):=by rfl
theorem mZ {D:ou} {h h':Hp} {f:FuncId} {args:List V} {v:V} {s:Nat} {k:V->Hp->Prop} (hc:D f args h v h') (hk:k v h') (hn:∀ n cells ex len cap,v≠.new n cells ex len cap) (hn2:∀ n,v≠.cut n:=by simp) (hn3:∀ n cells ex len cap y,v≠.tup [.new n cells ex len cap,.d y]:=by intro _ _ _ _ _ _ h;cases h):cai D h (.fn f [] []) args s k:=by
 grind [cai]
theorem Cg {h h':Hp} {f:FuncId} {args:List V} {n len cap:Nat} {cells:List D} {y:D} {s e:Nat} {b:Bk} {ex:Bool} {k:V->Hp->Prop} {DD:ou} (hc:DD f args h (.tup [.new n cells ex len cap,.d y]) h') (hs:h'[s]? = some (e,b))
  (hk:k (.tup [.ref s (e+1) 0 len cap cells.length,.d y]) (h'.set s (e+1,.data n cells ex false))):cai DD h (.fn f [] []) args s k:=by
 grind [cai,new]
theorem ir {h h':Hp} {f:FuncId} {args:List V} {n len cap:Nat} {cells:List D} {s e:Nat} {b:Bk} {ex:Bool} {k:V->Hp->Prop} {DD:ou} (hc:DD f args h (.new n cells ex len cap) h') (hs:h'[s]? = some (e,b))
  (hk:k (.ref s (e+1) 0 len cap cells.length) (h'.set s (e+1,.data n cells ex false))):cai DD h (.fn f [] []) args s k:=by
 grind [cai,new]
theorem Rb {C:pS} {h h':Hp} {f:FuncId} {args ds:List V} {v:V} {k:V->Hp->Prop} (hs:ai h args=some (ds,h')) (hc:C f ds v) (hk:k v (if gH v then h else h')):cal C h (.fn f [] []) args k:=by
 grind [cal]
theorem ZF {C:pS} {h:Hp} {f:FuncId} {args:List V} {v:V} {k:V->Hp->Prop} (hc:C f args v) (hs:ai h args=some (args,h)) (hk:k v h):cal C h (.fn f [] []) args k:=
 Rb hs hc (by grind)
theorem Pw {x:D} {h:Hp} (hx:norm x=x):out (.d x) (.d x) h:=⟨h,by simp [hx]⟩
theorem Sq {α:Type} (f:α->D) (l:List α) (h:Hp):out (lst f l) (lst f l) h:=⟨h,af⟩
@[simp] theorem aae (k:IntKind) (n:Int) (h:Hp):out (.d (.int k n)) (.d (.int k n)) h:=Pw rfl
@[simp] theorem Bl (b:Bool) (h:Hp):out (.d (.bool b)) (.d (.bool b)) h:=Pw rfl
theorem E5 {k:IntKind} {a b:Nat} {l:IntKind} (hb:b<=k.bits):biI .shr (.d (.int k a)) (.d (.int l b))=some (.d (.int k ((a / 2 ^ b:Nat):Int))):=by
 have h1:¬ ((b:Int)<0):=aa
 grind [biI,gr,kG,ii]
theorem uO {a b:Nat} (h:a+b<18446744073709551616):biI .add (.d (.int .u64 a)) (.d (.int .u64 b))=some (.d (.int .u64 ((a+b:Nat):Int))):=by
 rw [uN,wrap_u64 aa];simp
theorem zZ {a b:Nat} (h:a*b<18446744073709551616):biI .mul (.d (.int .u64 a)) (.d (.int .u64 b))=some (.d (.int .u64 ((a*b:Nat):Int))):=by
 grind [lY,wrap_u64]
theorem VE {k:IntKind} {a:Nat} (h:a<18446744073709551616):cvI .u64 (.d (.int k a))=some (.d (.int .u64 a)):=by
 rw [LZ,wrap_u64 aa]
section
variable {α:Type} {f:α->D} {l:List α} {h:Hp} {s e:Nat} {ex fr:Bool}
end
end Go.Vm
