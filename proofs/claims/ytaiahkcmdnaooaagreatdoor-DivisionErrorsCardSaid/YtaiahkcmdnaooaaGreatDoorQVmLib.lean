/- Lemmas for walking through texts: what operations find of known values; loops; slices as lists. -/
import Derived.Test.YtaiahkcmdnaooaaGreatDoorQVmB
set_option linter.unusedVariables false
set_option linter.unusedSimpArgs false
namespace Go.Vm
open Go Go.Am
@[simp] theorem vG (v:V) (k:V->Prop):bnd (some v) k=k v:=rfl
theorem Nw {p:Prop} [Decidable p] (hp:p) (x y:V):cW (.d (.bool (decide p))) x y=some x:=by simp [cW,hp]
theorem Qi {p:Prop} [Decidable p] (hp:¬ p) (x y:V):cW (.d (.bool (decide p))) x y=some y:=by simp [cW,hp]
@[simp low] theorem TY (b:Bool) (x y:V):cW (.d (.bool b)) x y=some (if b=true then x else y):=by cases b <;> rfl
@[simp] theorem V1 (l:List V) (i:Nat) (k:V->Prop):ext (.tup l) i k=bnd l[i]? k:=rfl
theorem Gw {k:List V->Hp->Prop} {T:(List V->Hp->Prop)->Prop} {l:List V} {h:Hp} (hT:∀ q,T q=q l h):jn k T=k l h:=hT k
@[simp] theorem JX (x:V) (l:List V):ge (x::l) 0=x:=rfl
@[simp] theorem VX (x:V) (l:List V) (n:Nat):ge (x::l) (n+1)=ge l n:=rfl
@[simp] theorem XY (x y:V) (l:List V):ge (x::y::l) 1=y:=rfl
@[simp] theorem XX (x y z:V) (l:List V):ge (x::y::z::l) 2=z:=rfl
@[simp] theorem U7 (x y z u:V) (l:List V):ge (x::y::z::u::l) 3=u:=rfl
@[simp] theorem iB (i:Nat) (q:List V->Hp->Prop) (r:List (Exit × (List V->Hp->Prop))) (l:List V) (h:Hp):exK ((.exit i,q)::r) (.exit i) l h=q l h:=by
 simp only [exK,OI,Yb]
@[simp] theorem yC (q:List V->Hp->Prop) (r:List (Exit × (List V->Hp->Prop))) (l:List V) (h:Hp):exK ((.ret,q)::r) .ret l h=q l h:=rfl
@[simp] theorem vq (i:Nat) (p:List V->Hp->Prop) (r:List (Exit × (List V->Hp->Prop))) (l:List V) (h:Hp):exK ((.exit i,p)::r) .ret l h=exK r .ret l h:=rfl
theorem ax {step:bh} {clr:List Nat} {h0:Hp} {l:List V} {h:Hp} {k:KL} (hs:step l h (lpK clr h0 (fun l h=>lp step clr h0 l h k) k)):lp step clr h0 l h k:=by
 intro I hI;refine hI l h ⟨_,hs,fun ex l' h' hq=>?_⟩;cases ex
 case normal=>exact ⟨hq.1,hq.2 I hI⟩
 all_goals exact hq
@[simp] theorem SV (clr:List Nat) (h0:Hp) (I:List V->Hp->Prop) (k:KL) (l:List V) (h:Hp):lpK clr h0 I k .normal l h=(clean clr l h=true∧I l (aK clr 0 h0 h)):=rfl
@[simp] theorem UU (clr:List Nat) (h0:Hp) (I:List V->Hp->Prop) (k:KL) (i:Nat) (l:List V) (h:Hp):lpK clr h0 I k (.exit i) l h=k (.exit i) l h:=rfl
@[simp] theorem VR (clr:List Nat) (h0:Hp) (I:List V->Hp->Prop) (k:KL) (l:List V) (h:Hp):lpK clr h0 I k .ret l h=k .ret l h:=rfl
theorem Cr:∀ l:List V,fY [] l=true:=by
 intro l
 have key:∀ x:V,lm [] x=true:=by
  intro x
  induction x using V.rec (motive_2:=fun l=>fY [] l=true) with
  | agg l ih=>trivial
  | tup l ih=>trivial
  | fn g a b iha ihb=>grind [lm]
  | ifc t x ih=>trivial
  | nil=>rfl
  | cons x l ih ihl=>grind [fY]
  | _=>rfl
 induction l with
 | nil=>rfl
 | cons x l ih=>grind [fY]
theorem Ga:∀ (h:Hp) (i:Nat),oh [] i h=true
 | [],_=>rfl
 | (_,b)::h,i=>by
  simp only [oh,Ga h,Wn,X4,Zb];right;cases b <;> simp [offB,Cr]
@[simp] theorem clean_nil (l:List V) (h:Hp):clean [] l h=true:=by simp [clean,Cr,Ga]
theorem Cm:∀ (i:Nat) (h0 h:Hp),h.length=h0.length->aK [] i h0 h=h
 | _,[],h,_=>by cases h <;> rfl
 | _,_::_,[],_=>rfl
 | i,(e0,b0)::h0,(e,b)::h,hl=>by
  simp only [aK,ek,if_true];rw [Cm (i+1) h0 h (by grind)]
theorem wrap_i64 {n:Int} (h : -9223372036854775808<=n∧n<=9223372036854775807):IntKind.wrap .i64 n=n:=by
 have e1:(2:Int) ^ 64=18446744073709551616:=ae;have e2:(2:Int) ^ (64-1)=9223372036854775808:=ae
 grind [IntKind.wrap,IntKind.bits,IntKind.signed]
theorem Hm {k:IntKind} (hk:k.signed=false) {n:Int} (h:0<=n∧n<2 ^ k.bits):k.wrap n=n:=by
 grind [IntKind.wrap,Int.emod_eq_of_lt]
theorem wrap_u64 {n:Int} (h:0<=n∧n<18446744073709551616):IntKind.wrap .u64 n=n:=Hm rfl h
theorem wrap_u32 {n:Int} (h:0<=n∧n<4294967296):IntKind.wrap .u32 n=n:=Hm rfl h
theorem B3 (n:Int):IntKind.wrap .u64 n=n % 18446744073709551616:=by
 rfl
@[simp] theorem Wd (k:IntKind) (a b:Int):biI .lss (.d (.int k a)) (.d (.int k b))=some (.d (.bool (decide (a<b)))):=by simp [biI,fA,jK,gF]
@[simp] theorem We (k:IntKind) (a b:Int):biI .leq (.d (.int k a)) (.d (.int k b))=some (.d (.bool (decide (a<=b)))):=by simp [biI,fA,jK,gF]
@[simp] theorem Wg (k:IntKind) (a b:Int):biI .gtr (.d (.int k a)) (.d (.int k b))=some (.d (.bool (decide (b<a)))):=by simp [biI,fA,jK,gF]
@[simp] theorem Wh (k:IntKind) (a b:Int):biI .geq (.d (.int k a)) (.d (.int k b))=some (.d (.bool (decide (b<=a)))):=by simp [biI,fA,jK,gF]
@[simp] theorem Wi (k:IntKind) (a b:Int):biI .eql (.d (.int k a)) (.d (.int k b))=some (.d (.bool (decide (a=b)))):=by simp [biI,fA,jK,gF];rfl
@[simp] theorem Wc (k:IntKind) (a b:Int):biI .neq (.d (.int k a)) (.d (.int k b))=some (.d (.bool (decide (a≠b)))):=by simp [biI,fA,jK,gF];rfl
theorem sX (k:IntKind) (a b:Int):biI .add (.d (.int k a)) (.d (.int k b))=some (.d (.int k (k.wrap (a+b)))):=by simp [biI,fA,jK,gF]
theorem qy (k:IntKind) (a b:Int):biI .sub (.d (.int k a)) (.d (.int k b))=some (.d (.int k (k.wrap (a-b)))):=by simp [biI,fA,jK,gF]
theorem kG (k:IntKind) (a b:Int):biI .mul (.d (.int k a)) (.d (.int k b))=some (.d (.int k (k.wrap (a*b)))):=by simp [biI,fA,jK,gF]
@[simp] theorem Q4 (k l:IntKind) (n:Int):cvI k (.d (.int l n))=some (.d (.int k (k.wrap n))):=rfl
@[simp] theorem Wl (a b:Bool):biB .eql (.d (.bool a)) (.d (.bool b))=some (.d (.bool (a == b))):=rfl
@[simp] theorem Wj (a b:Bool):biB .neq (.d (.bool a)) (.d (.bool b))=some (.d (.bool (a != b))):=rfl
@[simp] theorem Vx (b:Bool):unV .not (.d (.bool b))=some (.d (.bool (!b))):=rfl
def lst {α:Type} (f:α->D) (l:List α):V:=.d (.sl l.length (l.map f))
section
variable {α:Type} (f:α->D) (l:List α)
@[simp] theorem UX:bq (lst f l)=some (I l.length):=rfl
theorem Im (h:Hp) {k:IntKind} {i:Int} {j:Nat} (hj:i=j) (hl:j<l.length):ixV h 1 (lst f l) (.d (.int k i))=some (.dptr (l.map f) j):=by
 subst hj;simp only [ixV,lst];rw [if_pos ⟨aa,aa,af⟩];simp
theorem S4 (h:Hp) {j:Nat} (hl:j<l.length):ld1 h (.dptr (l.map f) j)=some (.d (f l[j])):=by
 simp [ld1,hl]
end
section
variable {α:Type} (f:α->D) (l:List α)
theorem AP (d top:Nat):boV d top none=some d:=rfl
theorem r9 {d top j:Nat} {i:Int} {k:IntKind} (hi:i=j) (hj:j<=top):boV d top (some (.d (.int k i)))=some j:=by
 subst hi;simp only [boV];rw [if_pos ⟨aa,aa⟩];simp
theorem Mz {h:Hp} {lo hi:Option V} {i j:Nat} (h0:0<l.length) (hj:boV l.length l.length hi=some j) (hi2:boV 0 j lo=some i) (hij:i<=j) (hjl:j<=l.length):slV h 1 (lst f l) lo hi=some (lst f ((l.drop i).take (j-i))):=by
 simp only [slV,lst,hj,hi2];rw [if_pos ⟨af,h0⟩];simp only [X8,List.map_take,List.map_drop,Zn,Yd];rw [Y4 aa]
theorem UB {h:Hp} {i:Int} {j:Nat} (h0:0<l.length) (hi:i=j) (hj:j<=l.length):slV h 1 (lst f l) none (some (I i))=some (lst f (l.take j)):=by
 rw [Mz f l h0 (r9 hi hj) (AP 0 j) (Ys _) hj];simp
theorem UA {h:Hp} {i:Int} {j:Nat} (h0:0<l.length) (hi:i=j) (hj:j<=l.length):slV h 1 (lst f l) (some (I i)) none=some (lst f (l.drop j)):=by
 rw [Mz f l h0 (AP _ _) (r9 hi hj) hj (Z7 _)];rw [Zw af]
end
@[simp] theorem WQ (h:Hp) (x:D):bY h (.d x)=some (.d (norm x),h):=by rfl
@[simp] theorem UR (k:IntKind) (n:Int):norm (.int k n)=.int k n:=rfl
@[simp] theorem T1 (b:Bool):norm (.bool b)=.bool b:=rfl
@[simp] theorem UM (s:List UInt8):norm (.str s)=.str s:=rfl
@[simp] theorem VO (n:Nat) (l:List D):norm (.sl n l)=.sl n l:=rfl
@[simp] theorem UQ:norm (.pl (.slice none 0 0))=.sl 0 []:=rfl
@[simp] theorem Fp {α:Type} (h:Hp) (f:α->D) (l:List α):bY h (lst f l)=some (lst f l,h):=by rfl
@[simp] theorem TU (h:Hp):aH h []=some ([],h):=by rfl
theorem lV {D:nm} {h h':Hp} {f:FuncId} {args:List V} {v:V} {s:Nat} {k:V->Hp->Prop} (hc:D f args h v h') (hk:k v h') (hn:∀ n cells ex len cap,v≠.new n cells ex len cap) (hn2:∀ n,v≠.cut n:=by simp) (hn3:∀ n cells ex len cap y,v≠.tup [.new n cells ex len cap,.d y]:=by intro _ _ _ _ _ _ h;cases h)
  (hn4:∀ n cells ex len cap,v≠.tup [.new n cells ex len cap]:=by intro _ _ _ _ _ h;cases h) (hn5:∀ n cells ex len cap y,v≠.tup [.tup [.new n cells ex len cap],.d y]:=by intro _ _ _ _ _ _ h;cases h):cai D h (.fn f [] []) args s k:=by
 grind [cai]
theorem Po {h h':Hp} {f:FuncId} {args:List V} {n len cap:Nat} {cells:List D} {y:D} {s e:Nat} {b:Bk} {ex:Bool} {k:V->Hp->Prop} {DD:nm} (hc:DD f args h (.tup [.new n cells ex len cap,.d y]) h') (hs:h'[s]? = some (e,b))
  (hk:k (.tup [.ref s (e+1) 0 len cap cells.length,.d y]) (h'.set s (e+1,.data n cells ex false))):cai DD h (.fn f [] []) args s k:=by
 grind [cai,new]
theorem gL {h h':Hp} {f:FuncId} {args:List V} {n len cap:Nat} {cells:List D} {s e:Nat} {b:Bk} {ex:Bool} {k:V->Hp->Prop} {DD:nm} (hc:DD f args h (.new n cells ex len cap) h') (hs:h'[s]? = some (e,b))
  (hk:k (.ref s (e+1) 0 len cap cells.length) (h'.set s (e+1,.data n cells ex false))):cai DD h (.fn f [] []) args s k:=by
 grind [cai,new]
theorem IK {C:nr} {h h':Hp} {f:FuncId} {args ds:List V} {v:V} {k:V->Hp->Prop} (hs:aH h args=some (ds,h')) (hc:C f ds v) (hk:k v (if gP v then h else h')):cal C h (.fn f [] []) args k:=by
 grind [cal]
theorem Vl {C:nr} {h:Hp} {f:FuncId} {args:List V} {v:V} {k:V->Hp->Prop} (hc:C f args v) (hs:aH h args=some (args,h)) (hk:k v h):cal C h (.fn f [] []) args k:=
 IK hs hc (by grind)
theorem NB {x:D} {h:Hp} (hx:norm x=x):out (.d x) (.d x) h:=⟨h,by simp [hx]⟩
@[simp] theorem VK (k:IntKind) (n:Int) (h:Hp):out (.d (.int k n)) (.d (.int k n)) h:=NB rfl
@[simp] theorem UH (b:Bool) (h:Hp):out (.d (.bool b)) (.d (.bool b)) h:=NB rfl
theorem DJ {k:IntKind} {a b:Nat} {l:IntKind} (hb:b<=k.bits):biI .shr (.d (.int k a)) (.d (.int l b))=some (.d (.int k ((a / 2 ^ b:Nat):Int))):=by
 have h1:¬ ((b:Int)<0):=aa
 grind [biI,fA,jK,gF]
theorem s6 {a b:Nat} (h:a+b<18446744073709551616):biI .add (.d (.int .u64 a)) (.d (.int .u64 b))=some (.d (.int .u64 ((a+b:Nat):Int))):=by
 rw [sX,wrap_u64 aa];simp
theorem yx {a b:Nat} (h:a*b<18446744073709551616):biI .mul (.d (.int .u64 a)) (.d (.int .u64 b))=some (.d (.int .u64 ((a*b:Nat):Int))):=by
 grind [kG,wrap_u64]
theorem TE {k:IntKind} {a:Nat} (h:a<18446744073709551616):cvI .u64 (.d (.int k a))=some (.d (.int .u64 a)):=by
 rw [Q4,wrap_u64 aa]
section
variable {α:Type} {f:α->D} {l:List α} {h:Hp} {s e:Nat} {ex fr:Bool}
end
end Go.Vm
