/- Lemmas for walking through texts: what operations find of known values; loops; slices as lists. -/
import Derived.Test.YtaiahkcmdnaooaaGreatDoorQVmB
set_option linter.unusedVariables false
set_option linter.unusedSimpArgs false
namespace Go.Vm
open Go Go.Am
@[simp] theorem oL (v:V) (k:V->Prop):bnd (some v) k=k v:=rfl
theorem NU {p:Prop} [Decidable p] (hp:p) (x y:V):aP (.d (.bool (decide p))) x y=some x:=by simp [aP,hp]
theorem Qw {p:Prop} [Decidable p] (hp:¬ p) (x y:V):aP (.d (.bool (decide p))) x y=some y:=by simp [aP,hp]
@[simp low] theorem Ua (b:Bool) (x y:V):aP (.d (.bool b)) x y=some (if b=true then x else y):=by cases b <;> rfl
@[simp] theorem WP (l:List V) (i:Nat) (k:V->Prop):ext (.tup l) i k=bnd l[i]? k:=rfl
theorem GX {k:List V->Hp->Prop} {T:(List V->Hp->Prop)->Prop} {l:List V} {h:Hp} (hT:∀ q,T q=q l h):jn k T=k l h:=hT k
@[simp] theorem Kr (x:V) (l:List V):ge (x::l) 0=x:=rfl
@[simp] theorem WL (x:V) (l:List V) (n:Nat):ge (x::l) (n+1)=ge l n:=rfl
@[simp] theorem ZA (x y:V) (l:List V):ge (x::y::l) 1=y:=rfl
@[simp] theorem YZ (x y z:V) (l:List V):ge (x::y::z::l) 2=z:=rfl
@[simp] theorem Vb (x y z u:V) (l:List V):ge (x::y::z::u::l) 3=u:=rfl
@[simp] theorem iA (i:Nat) (q:List V->Hp->Prop) (r:List (Exit × (List V->Hp->Prop))) (l:List V) (h:Hp):exK ((.exit i,q)::r) (.exit i) l h=q l h:=by
 simp only [exK,O2,X8]
@[simp] theorem vP (q:List V->Hp->Prop) (r:List (Exit × (List V->Hp->Prop))) (l:List V) (h:Hp):exK ((.ret,q)::r) .ret l h=q l h:=rfl
@[simp] theorem sJ (i:Nat) (p:List V->Hp->Prop) (r:List (Exit × (List V->Hp->Prop))) (l:List V) (h:Hp):exK ((.exit i,p)::r) .ret l h=exK r .ret l h:=rfl
theorem ax {step:bz} {clr:List Nat} {h0:Hp} {l:List V} {h:Hp} {k:KL} (hs:step l h (lpK clr h0 (fun l h=>lp step clr h0 l h k) k)):lp step clr h0 l h k:=by
 intro I hI;refine hI l h ⟨_,hs,fun ex l' h' hq=>?_⟩;cases ex
 case normal=>exact ⟨hq.1,hq.2 I hI⟩
 all_goals exact hq
@[simp] theorem Tb (clr:List Nat) (h0:Hp) (I:List V->Hp->Prop) (k:KL) (l:List V) (h:Hp):lpK clr h0 I k .normal l h=(clean clr l h=true∧I l (aE clr 0 h0 h)):=rfl
@[simp] theorem UY (clr:List Nat) (h0:Hp) (I:List V->Hp->Prop) (k:KL) (i:Nat) (l:List V) (h:Hp):lpK clr h0 I k (.exit i) l h=k (.exit i) l h:=rfl
@[simp] theorem WE (clr:List Nat) (h0:Hp) (I:List V->Hp->Prop) (k:KL) (l:List V) (h:Hp):lpK clr h0 I k .ret l h=k .ret l h:=rfl
theorem CH:∀ l:List V,eM [] l=true:=by
 intro l
 have key:∀ x:V,jj [] x=true:=by
  intro x
  induction x using V.rec (motive_2:=fun l=>eM [] l=true) with
  | agg l ih=>simpa only [jj] using ih
  | tup l ih=>simpa only [jj] using ih
  | fn g a b iha ihb=>simp only [jj,iha,ihb,X9]
  | ifc t x ih=>simpa only [jj] using ih
  | nil=>rfl
  | cons x l ih ihl=>simp only [eM,ih,ihl,X9]
  | _=>rfl
 induction l with
 | nil=>rfl
 | cons x l ih=>simp only [eM,key,ih,X9]
theorem GA:∀ (h:Hp) (i:Nat),oC [] i h=true
 | [],_=>rfl
 | (_,b)::h,i=>by
  simp only [oC,GA h,Wa,Xy,Y9];right;cases b <;> simp [offB,CH]
@[simp] theorem clean_nil (l:List V) (h:Hp):clean [] l h=true:=by simp [clean,CH,GA]
theorem Cz:∀ (i:Nat) (h0 h:Hp),h.length=h0.length->aE [] i h0 h=h
 | _,[],h,_=>by cases h <;> rfl
 | _,_::_,[],_=>rfl
 | i,(e0,b0)::h0,(e,b)::h,hl=>by
  simp only [aE,dM,if_true];rw [Cz (i+1) h0 h (by simpa using hl)]
theorem wrap_i64 {n:Int} (h : -9223372036854775808<=n∧n<=9223372036854775807):IntKind.wrap .i64 n=n:=by
 have e1:(2:Int) ^ 64=18446744073709551616:=ae;have e2:(2:Int) ^ (64-1)=9223372036854775808:=ae;simp only [IntKind.wrap,IntKind.bits,IntKind.signed,e1,e2,Ws,decide_eq_true_eq];split <;> omega
theorem HX {k:IntKind} (hk:k.signed=false) {n:Int} (h:0<=n∧n<2 ^ k.bits):k.wrap n=n:=by
 simp only [IntKind.wrap,hk,Wj,Zl,if_false];exact Int.emod_eq_of_lt h.1 h.2
theorem wrap_u64 {n:Int} (h:0<=n∧n<18446744073709551616):IntKind.wrap .u64 n=n:=HX rfl h
theorem wrap_u32 {n:Int} (h:0<=n∧n<4294967296):IntKind.wrap .u32 n=n:=HX rfl h
theorem Cj (n:Int):IntKind.wrap .u64 n=n % 18446744073709551616:=by
 simp only [IntKind.wrap,show IntKind.signed .u64=false from rfl,Wj,Zl,if_false];rfl
@[simp] theorem XA (k:IntKind) (a b:Int):biI .lss (.d (.int k a)) (.d (.int k b))=some (.d (.bool (decide (a<b)))):=by simp [biI,fP,kg,gV]
@[simp] theorem XB (k:IntKind) (a b:Int):biI .leq (.d (.int k a)) (.d (.int k b))=some (.d (.bool (decide (a<=b)))):=by simp [biI,fP,kg,gV]
@[simp] theorem XC (k:IntKind) (a b:Int):biI .gtr (.d (.int k a)) (.d (.int k b))=some (.d (.bool (decide (b<a)))):=by simp [biI,fP,kg,gV]
@[simp] theorem XD (k:IntKind) (a b:Int):biI .geq (.d (.int k a)) (.d (.int k b))=some (.d (.bool (decide (b<=a)))):=by simp [biI,fP,kg,gV]
@[simp] theorem XE (k:IntKind) (a b:Int):biI .eql (.d (.int k a)) (.d (.int k b))=some (.d (.bool (decide (a=b)))):=by simp [biI,fP,kg,gV];rfl
@[simp] theorem WZ (k:IntKind) (a b:Int):biI .neq (.d (.int k a)) (.d (.int k b))=some (.d (.bool (decide (a≠b)))):=by simp [biI,fP,kg,gV];rfl
theorem tF (k:IntKind) (a b:Int):biI .add (.d (.int k a)) (.d (.int k b))=some (.d (.int k (k.wrap (a+b)))):=by simp [biI,fP,kg,gV]
theorem qF (k:IntKind) (a b:Int):biI .sub (.d (.int k a)) (.d (.int k b))=some (.d (.int k (k.wrap (a-b)))):=by simp [biI,fP,kg,gV]
theorem kZ (k:IntKind) (a b:Int):biI .mul (.d (.int k a)) (.d (.int k b))=some (.d (.int k (k.wrap (a*b)))):=by simp [biI,fP,kg,gV]
@[simp] theorem KI (k l:IntKind) (n:Int):cvI k (.d (.int l n))=some (.d (.int k (k.wrap n))):=rfl
@[simp] theorem XG (a b:Bool):biB .eql (.d (.bool a)) (.d (.bool b))=some (.d (.bool (a == b))):=rfl
@[simp] theorem XF (a b:Bool):biB .neq (.d (.bool a)) (.d (.bool b))=some (.d (.bool (a != b))):=rfl
@[simp] theorem VJ (b:Bool):unV .not (.d (.bool b))=some (.d (.bool (!b))):=rfl
def lst {α:Type} (f:α->D) (l:List α):V:=.d (.sl l.length (l.map f))
section
variable {α:Type} (f:α->D) (l:List α)
@[simp] theorem U1:aA (lst f l)=some (I l.length):=rfl
theorem IV (h:Hp) {k:IntKind} {i:Int} {j:Nat} (hj:i=j) (hl:j<l.length):ixV h 1 (lst f l) (.d (.int k i))=some (.dptr (l.map f) j):=by
 subst hj;simp only [ixV,lst];rw [if_pos ⟨aa,aa,af⟩];simp
theorem Tl (h:Hp) {j:Nat} (hl:j<l.length):ld1 h (.dptr (l.map f) j)=some (.d (f l[j])):=by
 simp [ld1,hl]
end
section
variable {α:Type} (f:α->D) (l:List α)
theorem Bp (d top:Nat):boV d top none=some d:=rfl
theorem sR {d top j:Nat} {i:Int} {k:IntKind} (hi:i=j) (hj:j<=top):boV d top (some (.d (.int k i)))=some j:=by
 subst hi;simp only [boV];rw [if_pos ⟨aa,aa⟩];simp
theorem M1 {h:Hp} {lo hi:Option V} {i j:Nat} (h0:0<l.length) (hj:boV l.length l.length hi=some j) (hi2:boV 0 j lo=some i) (hij:i<=j) (hjl:j<=l.length):slV h 1 (lst f l) lo hi=some (lst f ((l.drop i).take (j-i))):=by
 simp only [slV,lst,hj,hi2];rw [if_pos ⟨af,h0⟩];simp only [Yg,List.map_take,List.map_drop,Zq,Yi];rw [Y8 aa]
theorem UJ {h:Hp} {i:Int} {j:Nat} (h0:0<l.length) (hi:i=j) (hj:j<=l.length):slV h 1 (lst f l) none (some (I i))=some (lst f (l.take j)):=by
 rw [M1 f l h0 (sR hi hj) (Bp 0 j) (Yq _) hj];simp
theorem UI {h:Hp} {i:Int} {j:Nat} (h0:0<l.length) (hi:i=j) (hj:j<=l.length):slV h 1 (lst f l) (some (I i)) none=some (lst f (l.drop j)):=by
 rw [M1 f l h0 (Bp _ _) (sR hi hj) hj (Z6 _)];rw [Zv af]
end
@[simp] theorem XU (h:Hp) (x:D):aI h (.d x)=some (.d (norm x),h):=by simp [aI]
@[simp] theorem UU (k:IntKind) (n:Int):norm (.int k n)=.int k n:=rfl
@[simp] theorem Uc (b:Bool):norm (.bool b)=.bool b:=rfl
@[simp] theorem N6 (s:List UInt8):norm (.str s)=.str s:=rfl
@[simp] theorem VZ (n:Nat) (l:List D):norm (.sl n l)=.sl n l:=rfl
@[simp] theorem UT:norm (.pl (.slice none 0 0))=.sl 0 []:=rfl
@[simp] theorem rO {α:Type} (h:Hp) (f:α->D) (l:List α):aI h (lst f l)=some (lst f l,h):=by simp [lst]
@[simp] theorem Lh (h:Hp):aj h []=some ([],h):=by simp [aj]
theorem t8 {h h1 h2:Hp} {v x:V} {l xs:List V} (e1:aI h v=some (x,h1)) (e2:aj h1 l=some (xs,h2)):aj h (v::l)=some (x::xs,h2):=by
 simp [aj,e1,e2]
theorem mp {D:nr} {h h':Hp} {f:FuncId} {args:List V} {v:V} {s:Nat} {k:V->Hp->Prop} (hc:D f args h v h') (hk:k v h') (hn:∀ n cells ex len cap,v≠.new n cells ex len cap) (hn2:∀ n,v≠.cut n:=by simp) (hn3:∀ n cells ex len cap y,v≠.tup [.new n cells ex len cap,.d y]:=by intro _ _ _ _ _ _ h;cases h):cai D h (.fn f [] []) args s k:=by
 simp only [cai,List.nil_append,Yo];refine ⟨v,h',hc,?_⟩;split
 ·exact absurd rfl (hn _ _ _ _ _)
 ·exact absurd rfl (hn2 _)
 ·exact absurd rfl (hn3 _ _ _ _ _ _)
 ·exact hk
theorem HJ {h h':Hp} {f:FuncId} {args:List V} {n len cap:Nat} {cells:List D} {y:D} {s e:Nat} {b:Bk} {ex:Bool} {k:V->Hp->Prop} {DD:nr} (hc:DD f args h (.tup [.new n cells ex len cap,.d y]) h') (hs:h'[s]? = some (e,b))
  (hk:k (.tup [.ref s (e+1) 0 len cap cells.length,.d y]) (h'.set s (e+1,.data n cells ex false))):cai DD h (.fn f [] []) args s k:=by
 simp only [cai,List.nil_append,Yo];exact ⟨_,h',hc,by simp only [new,hs];exact hk⟩
theorem ig {h h':Hp} {f:FuncId} {args:List V} {n len cap:Nat} {cells:List D} {s e:Nat} {b:Bk} {ex:Bool} {k:V->Hp->Prop} {DD:nr} (hc:DD f args h (.new n cells ex len cap) h') (hs:h'[s]? = some (e,b))
  (hk:k (.ref s (e+1) 0 len cap cells.length) (h'.set s (e+1,.data n cells ex false))):cai DD h (.fn f [] []) args s k:=by
 simp only [cai,List.nil_append,Yo];exact ⟨_,h',hc,by simp only [new,hs];exact hk⟩
theorem Jm {C:oN} {h h':Hp} {f:FuncId} {args ds:List V} {v:V} {k:V->Hp->Prop} (hs:aj h args=some (ds,h')) (hc:C f ds v) (hk:k v (if fw v then h else h')):cal C h (.fn f [] []) args k:=by
 simp only [cal,List.nil_append,Yo,hs];exact ⟨v,hc,hk⟩
theorem Vs {C:oN} {h:Hp} {f:FuncId} {args:List V} {v:V} {k:V->Hp->Prop} (hc:C f args v) (hs:aj h args=some (args,h)) (hk:k v h):cal C h (.fn f [] []) args k:=
 Jm hs hc (by simpa using hk)
theorem NZ {x:D} {h:Hp} (hx:norm x=x):out (.d x) (.d x) h:=⟨h,by simp [hx]⟩
theorem Qy {α:Type} (f:α->D) (l:List α) (h:Hp):out (lst f l) (lst f l) h:=⟨h,af⟩
@[simp] theorem Qz (k:IntKind) (n:Int) (h:Hp):out (.d (.int k n)) (.d (.int k n)) h:=NZ rfl
@[simp] theorem Ai (b:Bool) (h:Hp):out (.d (.bool b)) (.d (.bool b)) h:=NZ rfl
theorem DW {k:IntKind} {a b:Nat} {l:IntKind} (hb:b<=k.bits):biI .shr (.d (.int k a)) (.d (.int l b))=some (.d (.int k ((a / 2 ^ b:Nat):Int))):=by
 have h1:¬ ((b:Int)<0):=aa;simp only [biI,fP,h1,if_false,kg,gV,Int.toNat_natCast,Y8 hb];rw [Int.fdiv_eq_ediv_of_nonneg _ (by exact Int.le_of_lt (Int.pow_pos ae))];simp
theorem tI {a b:Nat} (h:a+b<18446744073709551616):biI .add (.d (.int .u64 a)) (.d (.int .u64 b))=some (.d (.int .u64 ((a+b:Nat):Int))):=by
 rw [tF,wrap_u64 aa];simp
theorem yR {a b:Nat} (h:a*b<18446744073709551616):biI .mul (.d (.int .u64 a)) (.d (.int .u64 b))=some (.d (.int .u64 ((a*b:Nat):Int))):=by
 rw [kZ,wrap_u64 ⟨by rw [<- Int.natCast_mul];omega,by rw [<- Int.natCast_mul];omega⟩];simp
theorem TR {k:IntKind} {a:Nat} (h:a<18446744073709551616):cvI .u64 (.d (.int k a))=some (.d (.int .u64 a)):=by
 rw [KI,wrap_u64 aa]
section
variable {α:Type} {f:α->D} {l:List α} {h:Hp} {s e:Nat} {ex fr:Bool}
end
end Go.Vm
