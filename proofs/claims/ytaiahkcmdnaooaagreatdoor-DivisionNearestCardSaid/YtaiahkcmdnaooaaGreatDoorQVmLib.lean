/- Lemmas for walking through texts: what operations find of known values; loops; slices as lists. -/
import Derived.Test.YtaiahkcmdnaooaaGreatDoorQVmB
set_option linter.unusedVariables false
set_option linter.unusedSimpArgs false
namespace Go.Vm
open Go Go.Am
@[simp] theorem oQ (v:V) (k:V->Prop):bnd (some v) k=k v:=rfl
theorem Ln {p:Prop} [Decidable p] (hp:p) (x y:V):aN (.d (.bool (decide p))) x y=some x:=by simp [aN,hp]
theorem N2 {p:Prop} [Decidable p] (hp:¬ p) (x y:V):aN (.d (.bool (decide p))) x y=some y:=by simp [aN,hp]
@[simp low] theorem RA (b:Bool) (x y:V):aN (.d (.bool b)) x y=some (if b=true then x else y):=by cases b <;> rfl
@[simp] theorem T5 (l:List V) (i:Nat) (k:V->Prop):ext (.tup l) i k=bnd l[i]? k:=rfl
theorem ES {k:List V->Hp->Prop} {T:(List V->Hp->Prop)->Prop} {l:List V} {h:Hp} (hT:∀ q,T q=q l h):jn k T=k l h:=hT k
@[simp] theorem Ig (x:V) (l:List V):ge (x::l) 0=x:=rfl
@[simp] theorem TZ (x:V) (l:List V) (n:Nat):ge (x::l) (n+1)=ge l n:=rfl
@[simp] theorem U6 (x y:V) (l:List V):ge (x::y::l) 1=y:=rfl
@[simp] theorem U5 (x y z:V) (l:List V):ge (x::y::z::l) 2=z:=rfl
@[simp] theorem SY (x y z u:V) (l:List V):ge (x::y::z::u::l) 3=u:=rfl
@[simp] theorem gT (i:Nat) (q:List V->Hp->Prop) (r:List (Exit × (List V->Hp->Prop))) (l:List V) (h:Hp):exK ((.exit i,q)::r) (.exit i) l h=q l h:=by
 simp only [exK,Mw,Yd]
@[simp] theorem uv (q:List V->Hp->Prop) (r:List (Exit × (List V->Hp->Prop))) (l:List V) (h:Hp):exK ((.ret,q)::r) .ret l h=q l h:=rfl
@[simp] theorem qQ (i:Nat) (p:List V->Hp->Prop) (r:List (Exit × (List V->Hp->Prop))) (l:List V) (h:Hp):exK ((.exit i,p)::r) .ret l h=exK r .ret l h:=rfl
theorem aj {step:bq} {clr:List Nat} {h0:Hp} {l:List V} {h:Hp} {k:KL} (hs:step l h (lpK clr h0 (fun l h=>lp step clr h0 l h k) k)):lp step clr h0 l h k:=by
 intro I hI;refine hI l h ⟨_,hs,fun ex l' h' hq=>?_⟩;cases ex
 case normal=>exact ⟨hq.1,hq.2 I hI⟩
 all_goals exact hq
@[simp] theorem QB (clr:List Nat) (h0:Hp) (I:List V->Hp->Prop) (k:KL) (l:List V) (h:Hp):lpK clr h0 I k .normal l h=(clean clr l h=true∧I l (ay clr 0 h0 h)):=rfl
@[simp] theorem SJ (clr:List Nat) (h0:Hp) (I:List V->Hp->Prop) (k:KL) (i:Nat) (l:List V) (h:Hp):lpK clr h0 I k (.exit i) l h=k (.exit i) l h:=rfl
@[simp] theorem TT (clr:List Nat) (h0:Hp) (I:List V->Hp->Prop) (k:KL) (l:List V) (h:Hp):lpK clr h0 I k .ret l h=k .ret l h:=rfl
theorem AN:∀ l:List V,eC [] l=true:=by
 intro l
 have key:∀ x:V,ji [] x=true:=by
  intro x
  induction x using V.rec (motive_2:=fun l=>eC [] l=true) with
  | agg l ih=>simpa only [ji] using ih
  | tup l ih=>simpa only [ji] using ih
  | fn g a b iha ihb=>simp only [ji,iha,ihb,Ye]
  | ifc t x ih=>simpa only [ji] using ih
  | nil=>rfl
  | cons x l ih ihl=>simp only [eC,ih,ihl,Ye]
  | _=>rfl
 induction l with
 | nil=>rfl
 | cons x l ih=>simp only [eC,key,ih,Ye]
theorem Ex:∀ (h:Hp) (i:Nat),m8 [] i h=true
 | [],_=>rfl
 | (_,b)::h,i=>by
  simp only [m8,Ex h,Wj,X7,Zc];right;cases b <;> simp [offB,AN]
@[simp] theorem clean_nil (l:List V) (h:Hp):clean [] l h=true:=by simp [clean,AN,Ex]
theorem AJ:∀ (i:Nat) (h0 h:Hp),h.length=h0.length->ay [] i h0 h=h
 | _,[],h,_=>by cases h <;> rfl
 | _,_::_,[],_=>rfl
 | i,(e0,b0)::h0,(e,b)::h,hl=>by
  simp only [ay,dw,if_true];rw [AJ (i+1) h0 h (by simpa using hl)]
theorem wrap_i64 {n:Int} (h : -9223372036854775808<=n∧n<=9223372036854775807):IntKind.wrap .i64 n=n:=by
 have e1:(2:Int) ^ 64=18446744073709551616:=by decide
 have e2:(2:Int) ^ (64-1)=9223372036854775808:=by decide
 simp only [IntKind.wrap,IntKind.bits,IntKind.signed,e1,e2,W0,decide_eq_true_eq];split <;> omega
theorem FS {k:IntKind} (hk:k.signed=false) {n:Int} (h:0<=n∧n<2 ^ k.bits):k.wrap n=n:=by
 simp only [IntKind.wrap,hk,Wu,Zn,if_false];exact Int.emod_eq_of_lt h.1 h.2
theorem wrap_u64 {n:Int} (h:0<=n∧n<18446744073709551616):IntKind.wrap .u64 n=n:=FS rfl h
theorem wrap_u32 {n:Int} (h:0<=n∧n<4294967296):IntKind.wrap .u32 n=n:=FS rfl h
theorem Aq (n:Int):IntKind.wrap .u64 n=n % 18446744073709551616:=by
 simp only [IntKind.wrap,show IntKind.signed .u64=false from rfl,Wu,Zn,if_false];rfl
@[simp] theorem Ug (k:IntKind) (a b:Int):biI .lss (.d (.int k a)) (.d (.int k b))=some (.d (.bool (decide (a<b)))):=by simp [biI,fj,jC,gn]
@[simp] theorem Uh (k:IntKind) (a b:Int):biI .leq (.d (.int k a)) (.d (.int k b))=some (.d (.bool (decide (a<=b)))):=by simp [biI,fj,jC,gn]
@[simp] theorem Ui (k:IntKind) (a b:Int):biI .gtr (.d (.int k a)) (.d (.int k b))=some (.d (.bool (decide (b<a)))):=by simp [biI,fj,jC,gn]
@[simp] theorem Uj (k:IntKind) (a b:Int):biI .geq (.d (.int k a)) (.d (.int k b))=some (.d (.bool (decide (b<=a)))):=by simp [biI,fj,jC,gn]
@[simp] theorem Uk (k:IntKind) (a b:Int):biI .eql (.d (.int k a)) (.d (.int k b))=some (.d (.bool (decide (a=b)))):=by simp [biI,fj,jC,gn];rfl
@[simp] theorem Uf (k:IntKind) (a b:Int):biI .neq (.d (.int k a)) (.d (.int k b))=some (.d (.bool (decide (a≠b)))):=by simp [biI,fj,jC,gn];rfl
theorem rQ (k:IntKind) (a b:Int):biI .add (.d (.int k a)) (.d (.int k b))=some (.d (.int k (k.wrap (a+b)))):=by simp [biI,fj,jC,gn]
theorem pF (k:IntKind) (a b:Int):biI .sub (.d (.int k a)) (.d (.int k b))=some (.d (.int k (k.wrap (a-b)))):=by simp [biI,fj,jC,gn]
theorem kq (k:IntKind) (a b:Int):biI .mul (.d (.int k a)) (.d (.int k b))=some (.d (.int k (k.wrap (a*b)))):=by simp [biI,fj,jC,gn]
@[simp] theorem OU (k l:IntKind) (n:Int):cvI k (.d (.int l n))=some (.d (.int k (k.wrap n))):=rfl
@[simp] theorem Um (a b:Bool):biB .eql (.d (.bool a)) (.d (.bool b))=some (.d (.bool (a == b))):=rfl
@[simp] theorem Ul (a b:Bool):biB .neq (.d (.bool a)) (.d (.bool b))=some (.d (.bool (a != b))):=rfl
@[simp] theorem TA (b:Bool):unV .not (.d (.bool b))=some (.d (.bool (!b))):=rfl
def lst {α:Type} (f:α->D) (l:List α):V:=.d (.sl l.length (l.map f))
section
variable {α:Type} (f:α->D) (l:List α)
@[simp] theorem SN:am (lst f l)=some (I l.length):=rfl
theorem GJ (h:Hp) {k:IntKind} {i:Int} {j:Nat} (hj:i=j) (hl:j<l.length):ixV h 1 (lst f l) (.d (.int k i))=some (.dptr (l.map f) j):=by
 subst hj;simp only [ixV,lst];rw [if_pos ⟨by omega,by omega,by simp⟩];simp
theorem QI (h:Hp) {j:Nat} (hl:j<l.length):ld1 h (.dptr (l.map f) j)=some (.d (f l[j])):=by
 simp [ld1,hl]
end
section
variable {α:Type} (f:α->D) (l:List α)
theorem zo (d top:Nat):boV d top none=some d:=rfl
theorem qZ {d top j:Nat} {i:Int} {k:IntKind} (hi:i=j) (hj:j<=top):boV d top (some (.d (.int k i)))=some j:=by
 subst hi;simp only [boV];rw [if_pos ⟨by omega,by omega⟩];simp
theorem KN {h:Hp} {lo hi:Option V} {i j:Nat} (h0:0<l.length) (hj:boV l.length l.length hi=some j) (hi2:boV 0 j lo=some i) (hij:i<=j) (hjl:j<=l.length):slV h 1 (lst f l) lo hi=some (lst f ((l.drop i).take (j-i))):=by
 simp only [slV,lst,hj,hi2];rw [if_pos ⟨by simp,h0⟩];simp only [Yl,List.map_take,List.map_drop,Zr,Yp];rw [Za (by omega)]
theorem Sr {h:Hp} {i:Int} {j:Nat} (h0:0<l.length) (hi:i=j) (hj:j<=l.length):slV h 1 (lst f l) none (some (I i))=some (lst f (l.take j)):=by
 rw [KN f l h0 (qZ hi hj) (zo 0 j) (Yx _) hj];simp
theorem Sq {h:Hp} {i:Int} {j:Nat} (h0:0<l.length) (hi:i=j) (hj:j<=l.length):slV h 1 (lst f l) (some (I i)) none=some (lst f (l.drop j)):=by
 rw [KN f l h0 (zo _ _) (qZ hi hj) hj (Z7 _)];rw [Zu (by simp)]
end
@[simp] theorem Uz (h:Hp) (x:D):aA h (.d x)=some (.d (norm x),h):=by simp [aA]
@[simp] theorem SF (k:IntKind) (n:Int):norm (.int k n)=.int k n:=rfl
@[simp] theorem RF (b:Bool):norm (.bool b)=.bool b:=rfl
@[simp] theorem Lw (s:List UInt8):norm (.str s)=.str s:=rfl
@[simp] theorem TQ (n:Nat) (l:List D):norm (.sl n l)=.sl n l:=rfl
@[simp] theorem SE:norm (.pl (.slice none 0 0))=.sl 0 []:=rfl
@[simp] theorem xQ {α:Type} (h:Hp) (f:α->D) (l:List α):aA h (lst f l)=some (lst f l,h):=by simp [lst]
@[simp] theorem Rv (h:Hp):ae h []=some ([],h):=by simp [ae]
theorem kY {D:mp} {h h':Hp} {f:FuncId} {args:List V} {v:V} {s:Nat} {k:V->Hp->Prop} (hc:D f args h v h') (hk:k v h') (hn:∀ n cells ex len cap,v≠.new n cells ex len cap) (hn2:∀ n,v≠.cut n:=by simp) (hn3:∀ n cells ex len cap y,v≠.tup [.new n cells ex len cap,.d y]:=by intro _ _ _ _ _ _ h;cases h):cai D h (.fn f [] []) args s k:=by
 simp only [cai,List.nil_append,Yj];refine ⟨v,h',hc,?_⟩;split
 ·exact absurd rfl (hn _ _ _ _ _)
 ·exact absurd rfl (hn2 _)
 ·exact absurd rfl (hn3 _ _ _ _ _ _)
 ·exact hk
theorem M7 {h h':Hp} {f:FuncId} {args:List V} {n len cap:Nat} {cells:List D} {y:D} {s e:Nat} {b:Bk} {ex:Bool} {k:V->Hp->Prop} {DD:mp} (hc:DD f args h (.tup [.new n cells ex len cap,.d y]) h') (hs:h'[s]? = some (e,b))
  (hk:k (.tup [.ref s (e+1) 0 len cap cells.length,.d y]) (h'.set s (e+1,.data n cells ex false))):cai DD h (.fn f [] []) args s k:=by
 simp only [cai,List.nil_append,Yj];exact ⟨_,h',hc,by simp only [new,hs];exact hk⟩
theorem gE {h h':Hp} {f:FuncId} {args:List V} {n len cap:Nat} {cells:List D} {s e:Nat} {b:Bk} {ex:Bool} {k:V->Hp->Prop} {DD:mp} (hc:DD f args h (.new n cells ex len cap) h') (hs:h'[s]? = some (e,b))
  (hk:k (.ref s (e+1) 0 len cap cells.length) (h'.set s (e+1,.data n cells ex false))):cai DD h (.fn f [] []) args s k:=by
 simp only [cai,List.nil_append,Yj];exact ⟨_,h',hc,by simp only [new,hs];exact hk⟩
theorem G6 {C:mq} {h h':Hp} {f:FuncId} {args ds:List V} {v:V} {k:V->Hp->Prop} (hs:ae h args=some (ds,h')) (hc:C f ds v) (hk:k v (if fv v then h else h')):cal C h (.fn f [] []) args k:=by
 simp only [cal,List.nil_append,Yj,hs];exact ⟨v,hc,hk⟩
theorem Tj {C:mq} {h:Hp} {f:FuncId} {args:List V} {v:V} {k:V->Hp->Prop} (hc:C f args v) (hs:ae h args=some (args,h)) (hk:k v h):cal C h (.fn f [] []) args k:=
 G6 hs hc (by simpa using hk)
theorem Lr {x:D} {h:Hp} (hx:norm x=x):out (.d x) (.d x) h:=⟨h,by simp [hx]⟩
theorem N6 {α:Type} (f:α->D) (l:List α) (h:Hp):out (lst f l) (lst f l) h:=⟨h,by simp⟩
@[simp] theorem N7 (k:IntKind) (n:Int) (h:Hp):out (.d (.int k n)) (.d (.int k n)) h:=Lr rfl
@[simp] theorem yn (b:Bool) (h:Hp):out (.d (.bool b)) (.d (.bool b)) h:=Lr rfl
theorem BS {k:IntKind} {a b:Nat} {l:IntKind} (hb:b<=k.bits):biI .shr (.d (.int k a)) (.d (.int l b))=some (.d (.int k ((a / 2 ^ b:Nat):Int))):=by
 have h1:¬ ((b:Int)<0):=by omega
 simp only [biI,fj,h1,if_false,jC,gn,Int.toNat_natCast,Za hb];rw [Int.fdiv_eq_ediv_of_nonneg _ (by exact Int.le_of_lt (Int.pow_pos (by decide)))];simp
theorem rR {a b:Nat} (h:a+b<18446744073709551616):biI .add (.d (.int .u64 a)) (.d (.int .u64 b))=some (.d (.int .u64 ((a+b:Nat):Int))):=by
 rw [rQ,wrap_u64 (by omega)];simp
theorem xg {a b:Nat} (h:a*b<18446744073709551616):biI .mul (.d (.int .u64 a)) (.d (.int .u64 b))=some (.d (.int .u64 ((a*b:Nat):Int))):=by
 rw [kq,wrap_u64 ⟨by rw [<- Int.natCast_mul];omega,by rw [<- Int.natCast_mul];omega⟩];simp
theorem Rc {k:IntKind} {a:Nat} (h:a<18446744073709551616):cvI .u64 (.d (.int k a))=some (.d (.int .u64 a)):=by
 rw [OU,wrap_u64 (by omega)]
section
variable {α:Type} {f:α->D} {l:List α} {h:Hp} {s e:Nat} {ex fr:Bool}
end
end Go.Vm
