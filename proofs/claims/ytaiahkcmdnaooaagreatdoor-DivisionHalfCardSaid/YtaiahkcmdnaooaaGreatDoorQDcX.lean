/- Pieces of nine digits (package decimal): slots, trim. -/
import Derived.Test.YtaiahkcmdnaooaaGreatDoorQMath
import Derived.Test.YtaiahkcmdnaooaaGreatDoorQRefMul
import Derived.Test.YtaiahkcmdnaooaaGreatDoorQT
set_option linter.unusedVariables false
set_option linter.unusedSimpArgs false
namespace Go.Vm
open Go Go.Am Go.Big
def u6 (n:Nat):D:=.int .u64 n
abbrev U (n:Int):V:=.d (.int .u64 n)
@[simp] theorem ab6 (n:Nat):V.d (u6 n)=U n:=id rfl
def pcs (n:Nat):V:=lst u6 (dig Z n)
theorem UV (n:Nat):pcs n=lst u6 (dig Z n):=rfl
theorem BB (l:List Nat) (h:Hp) {j:Nat} (hl:j<l.length):ld1 h (.dptr (l.map u6) j)=some (U (nth 0 l j:Nat)):=dy u6 0 l h hl
section
variable {h:Hp} {s e tot:Nat} {l:List Nat} {ex fr:Bool}
theorem zo (hg:h[s]? = some (e,.data 1 (l.map u6) ex fr)) (ht:tot=l.length) {len cap:Nat} {i:Int} (h0:0<=i) (h1:i<len) (k:IntKind):ixV h 1 (.ref s e 0 len cap tot) (.d (.int k i))=some (.ptr s e i.toNat tot):=by
 simp only [ixV,ew hg];rw [if_pos ⟨by simp [ht],h0,h1⟩];simp
theorem FG (hg:h[s]? = some (e,.data 1 (l.map u6) ex fr)) (ht:tot=l.length) {j:Nat} (hj:j<l.length):ld1 h (.ptr s e j tot)=some (U (nth 0 l j:Nat)):=by
 have e1:tot=(l.map u6).length:=by simp [ht]
 simp only [ld1,ew hg,if_pos e1,List.getElem?_map,List.getElem?_eq_getElem hj,Option.map_some,fL 0 l j hj];rfl
theorem MF (hg:h[s]? = some (e,.data 1 (l.map u6) ex false)) (ht:tot=l.length) {j:Nat} (hj:j<l.length) (x:Nat):st h 1 (.ptr s e j tot) (U x)=some (h.set s (e,.data 1 ((l.set j x).map u6) ex false)):=by
 have e1:(l.map u6).take j++[u6 x]++(l.map u6).drop (j+1)=(l.set j x).map u6:=by
  rw [List.map_set,W6,if_pos au];simp
 simp only [st,if_true,sto,ew hg,jw,toD];rw [if_pos ⟨trivial,by simp [ht],au⟩];simp only [cG,List.length_singleton];rw [<- e1];rfl
theorem aa2 (hg:h[s]? = some (e,.data 1 (l.map u6) ex fr)) (ht:tot=l.length) {len cap:Nat} {i:Int} (h0:0<=i) (h1:i<=cap) (hlc:len<=cap):slV h 1 (.ref s e 0 len cap tot) none (some (I i))=some (.ref s e 0 i.toNat cap tot):=by
 simp only [slV,ew hg,boV];rw [if_pos ⟨aa,h1⟩];simp [ht,hlc]
theorem tG (hg:h[s]? = some (e,.data 1 (l.map u6) ex fr)) (ht:tot=l.length) {len cap:Nat} (h1:len<=cap) (hc:cap<=tot):aI h (.ref s e 0 len cap tot)=some (lst u6 (l.take len),h.set s (e,.data 1 (l.map u6) ex true)):=by
 simp only [aI,toD,ew hg];rw [if_pos ⟨by simp [ht],h1,au⟩];simp [lst,List.map_take,cG];omega
end
theorem Dr {h:Hp} {s e cap tot:Nat} {l:List Nat} {ex fr:Bool} (hg:h[s]? = some (e,.data 1 (l.map u6) ex fr)) (ht:tot=l.length) (hc:cap<=tot) (hb:cap<1000000000000) (k:KL) (h0:Hp) (hh:h0.length=h.length):∀ len,len<=cap->k (.exit 0) [.ref s e 0 (fR (l.take len)).length cap tot] h->lp (bF (CX Y) h.length) [] h0 [.ref s e 0 len cap tot] h k
 | 0,hl,hk=>by
  refine av ?_;simp (disch:=try exact ac)[bF];simpa [fR] using hk
 | len+1,hl,hk=>by
  have e1:=zo hg ht (len:=len+1) (cap:=cap) (i:=(len:Int)) aa aa .i64;have e2:=FG hg ht (j:=len) aa;have e3:=aa2 hg ht (len:=len+1) (cap:=cap) (i:=(len:Int)) aa aa aa;have e4:l.take (len+1)=l.take len++[nth 0 l len]:=by rw [fL 0 l len aa,List.take_append_getElem]
  rw [Int.toNat_natCast] at e1 e3;refine av ?_;by_cases h2:nth 0 l len=0
  ·rw [e4,h2,oe] at hk;have ih:=Dr hg ht hc hb k h0 hh len aa hk;simp (disch:=try exact ac)[bF,e1,e2,e3,h2,hh];exact ih
  ·rw [e4,vl h2] at hk;have e5:(l.take len++[nth 0 l len]).length=len+1:=by simp;omega
   rw [e5] at hk;simp (disch:=try exact ac)[bF,e1,e2,e3,h2];exact hk
theorem qF {h:Hp} (hu:(h.all fun x=>dU h.length x.2)=true) {s e len cap tot:Nat} {l:List Nat} {ex fr:Bool} (hg:h[s]? = some (e,.data 1 (l.map u6) ex fr)) (ht:tot=l.length) (hc:cap<=tot) (hb:cap<1000000000000) (hl:len<=cap) :
  CI Y F.aA [.ref s e 0 len cap tot] h (.ref s e 0 (fR (l.take len)).length cap tot) h:=by
 refine m9 ?_;simp (disch:=try exact ac)[aA];refine lo (Dr hg ht hc hb _ _ rfl len hl ?_);simp (disch:=try exact ac)[];have hs:=bH hg;refine ⟨af,by simpa using hu,.inl ⟨rfl,?_⟩⟩;simp [under,hs]
theorem Mx {h:Hp} {l0:List Nat} (k:KL) (h0:Hp) (hh:h0.length=h.length):∀ l:List Nat,l.length<1000000000000->k (.exit 0) [lst u6 (fR l)] h->lp (bF (CX Y) h.length) [] h0 [lst u6 l] h k:=by
 intro l hb hk
 induction hn:l.length generalizing l with
 | zero=>
  have:l=[]:=Zj hn;subst this;refine av ?_;simp (disch:=try exact ac)[bF];exact hk
 | succ n ih=>
  obtain ⟨l,x,rfl⟩:∃ l' x,l=l'++[x]:=⟨l.dropLast,l.getLast (by intro e;simp [e] at hn),(List.dropLast_concat_getLast _).symm⟩;have hl:l.length=n:=by simpa using hn
  have e1:=fun h:Hp=>cC u6 (l++[x]) h (k:=.i64) (i:=(l.length:Int)) aa au
  have e2:=fun h:Hp=>BB (l++[x]) h (j:=l.length) af
  have e3:=fun h:Hp=>XC u6 (l++[x]) h (i:=(l.length:Int)) aa au af
  have e4:nth 0 (l++[x]) l.length=x:=af;simp only [Int.toNat_natCast,V5] at e1 e3;rw [e4] at e2;have e5:((l++[x]).length:Int)=(l.length:Int)+1:=af;have e6:bC (lst u6 (l++[x]))=some (I ((l.length:Int)+1)):=by rw [<- e5];rfl
  have hb2:l.length<1000000000000:=by simp at hb;omega
  refine av ?_;by_cases hx:x=0
  ·subst hx;rw [oe] at hk;simp (disch:=try exact ac)[bF,e1,e2,e3,e6,hh];exact ih l hb2 hk hl
  ·rw [vl hx] at hk;simp (disch:=try exact ac)[bF,e1,e2,e3,e6,hx];exact hk
theorem RO {h:Hp} (hu:(h.all fun x=>dU h.length x.2)=true) {l:List Nat} (hb:l.length<1000000000000):CI Y F.aA [lst u6 l] h (lst u6 (fR l)) h:=by
 refine m9 ?_;simp (disch:=try exact ac)[aA];refine lo (Mx (l0:=l) _ _ rfl l hb ?_);simp (disch:=try exact ac)[];refine ⟨af,by simpa using hu,.inl ⟨rfl,rfl⟩⟩
end Go.Vm
namespace Go.Vm
open Go Go.Am Go.Big
def RdP (h:Hp) (a:V) (l:List Nat):Prop:=bC a=some (I l.length)∧∀ (t:Hp) (i:Nat),i<l.length->∃ p,ixV (h++t) 1 a (I i)=some p∧ld1 (h++t) p=some (U (nth 0 l i:Nat))
theorem Mq (h:Hp) (l:List Nat):RdP h (lst u6 l) l:=by
 refine ⟨rfl,fun t i hi=>⟨.dptr (l.map u6) i,?_,BB l _ hi⟩⟩;have:=cC u6 l (h++t) (k:=.i64) (i:=(i:Int)) aa aa
 rwa [Int.toNat_natCast] at this
theorem Bn {l:List Nat} {n i:Nat} (h:i<n):nth 0 (l.take n) i=nth 0 l i:=by
 simp [nth,List.getElem?_take_of_lt h]
theorem Aq {h:Hp} {s e len cap tot:Nat} {l:List Nat} {ex fr:Bool} (hg:h[s]? = some (e,.data 1 (l.map u6) ex fr)) (ht:tot=l.length) (hl:len<=tot):RdP h (.ref s e 0 len cap tot) (l.take len):=by
 have e1:(l.take len).length=len:=by simp;omega
 refine ⟨by rw [e1];rfl,fun t i hi=>⟨.ptr s e i tot,?_,?_⟩⟩
 ·have hs:=bH hg;have:=zo (h:=h++t) (by rw [List.getElem?_append_left hs];exact hg) ht (len:=len) (cap:=cap) (i:=(i:Int)) aa aa .i64
  rwa [Int.toNat_natCast] at this
 ·have hs:=bH hg;rw [Bn aa];exact FG (h:=h++t) (by rw [List.getElem?_append_left hs];exact hg) ht aa
def pH (h:Hp) (o:List Nat):Hp:=h++[(1,.data 1 (o.map u6) true false),(0,.none)]
theorem xN (h:Hp) (o:List Nat):(pH h o)[h.length]? = some (1,.data 1 (o.map u6) true false):=by simp [pH]
theorem Pt (h:Hp) (o o':List Nat):(pH h o).set h.length (1,.data 1 (o'.map u6) true false)=pH h o':=by simp [pH]
@[simp] theorem Pv (h:Hp) (o:List Nat):(pH h o).length=h.length+2:=by simp [pH]
theorem Rm {s b c:Nat} (hbc:b<=c) (h:Nat.blt s b=true):Nat.blt s c=true:=by
 rw [Nat.blt_eq] at *;omega
mutual
theorem GI {b c:Nat} (hbc:b<=c):∀ v:V,under b v=true->under c v=true
 | .ref s ..,h=>Rm hbc h
 | .ptr s ..,h=>Rm hbc h
 | .agg l,h=>oY hbc l h
 | .tup l,h=>oY hbc l h
 | .fn _ x y,h=>by
  simp only [under,Z8] at h ⊢;exact ⟨oY hbc x h.1,oY hbc y h.2⟩
 | .ifc _ x,h=>GI hbc x h
 | .new ..,h=>by cases h
 | .junk,_=>rfl
 | .d _,_=>rfl
 | .dptr ..,_=>rfl
 | .cut _,h=>by cases h
theorem oY {b c:Nat} (hbc:b<=c):∀ l:List V,pn b l=true->pn c l=true
 | [],_=>rfl
 | x::l,h=>by
  simp only [pn,Z8] at h ⊢;exact ⟨GI hbc x h.1,oY hbc l h.2⟩
end
theorem Dp {b c:Nat} (hbc:b<=c) {x:Bk} (h:dU b x=true):dU c x=true:=by
 cases x with
 | vars l=>exact oY hbc l h
 | none=>rfl
 | data n cs ex fr=>rfl
theorem Kz {b c:Nat} (hbc:b<=c) {h:Hp} (hu:(h.all fun x=>dU b x.2)=true):(h.all fun x=>dU c x.2)=true:=by
 rw [Zu] at hu ⊢;exact fun x hx=>Dp hbc (hu x hx)
section
variable {h:Hp} {t0 t1:V} {da db:List Nat}
theorem MA (hb:RdP h t1 db) (hsb:aE Z db) {x i N:Nat} (hx:x<Z) (hN:i+db.length<N) (hNb:N<1000000000000) (k:KL) (h0:Hp) (hh:h0.length=h.length+2) (T:Nat) (o0:List Nat) :
  ∀ (r c j:Nat) (o:List Nat),j+r=db.length->c<Z->o.length=N->aE Z o->val Z o+Z ^ (i+j)*(c+x*val Z (db.drop j))=T->(∀ m,i+db.length<=m->nth 0 o m=nth 0 o0 m) ->
  (∀ c' o',c'<Z->o'.length=N->aE Z o'->val Z o'+Z ^ (i+db.length)*c'=T->(∀ m,i+db.length<=m->nth 0 o' m=nth 0 o0 m)->k (.exit 2) [U (c':Nat)] (pH h o')) ->
  lp (fX (CX Y) h.length (.ref h.length 1 0 N N N) (I i) (U x) t1 (I db.length)) [] h0 [U c,I j] (pH h o) k:=by
 intro r
 induction r with
 | zero=>
  intro c j o hj hc ho hs hv hf hk;have hjl:j=db.length:=aa;subst hjl;have hd:db.drop db.length=[]:=List.drop_length;rw [hd] at hv;simp only [val,Nat.mul_zero,Nat.add_zero] at hv;refine av ?_;simp (disch:=try exact ac)[fX];exact hk c o hc ho hs hv hf
 | succ r ih=>
  intro c j o hj hc ho hs hv hf hk;have hjl:j<db.length:=aa;obtain ⟨m,hm⟩:∃ m,m=i+j:=⟨_,rfl⟩;rw [<- hm] at hv;have hij:m<o.length:=aa;obtain ⟨y,hy2⟩:∃ y,db.getD j 0=y:=⟨_,rfl⟩;have hy:=hsb.getD bf j;have hw:=hs.getD bf m;have hst:=PM (B:=Z) (o:=o) (j:=m) (c:=c) (a:=x) (y:=db.getD j 0) (v:=val Z (db.drop (j+1))) hij;rw [<- nR,hv] at hst;rw [hy2] at hy hst
  obtain ⟨p,hp⟩:∃ p,p=x*y:=⟨_,rfl⟩;have hxy:p<=999999999*999999999:=by rw [hp];exact Zq (by simp only [Z] at hx;omega) (by simp only [Z] at hy;omega)
  have hpi:(x:Int)*(y:Int)=(p:Int):=by rw [hp];simp
  rw [<- hp] at hst;have e1:((i:Int)+(j:Int))=(m:Int):=aa;have hZ:Z=1000000000:=rfl;obtain ⟨w,hwd⟩:∃ w,o.getD m 0=w:=⟨_,rfl⟩;rw [hwd] at hst hw;obtain ⟨pb,r1,r2⟩:=hb.2 [(1,.data 1 (o.map u6) true false),(0,.none)] j hjl;rw [show nth 0 db j=y from hy2] at r2;have r3:=zo (xN h o) ho.symm (len:=N) (cap:=N) (i:=(m:Int)) aa aa .i64;have r4:=FG (xN h o) ho.symm hij
  have r5:=MF (xN h o) ho.symm hij ((c+w+p) % Z);rw [show nth 0 o m=w from hwd] at r4;rw [Int.toNat_natCast] at r3;rw [Pt] at r5
  change ixV (pH h o) 1 t1 (I j)=some pb at r1
  change ld1 (pH h o) pb=_ at r2
  have ih2:=ih ((c+w+p) / Z) (j+1) (o.set m ((c+w+p) % Z)) aa (by simp only [hZ] at *;omega) (by simpa using ho) (hs.set (Yw _ bf)) (by rw [show i+(j+1)=m+1 by omega];exact hst)
   (fun n hn=>by rw [<- hf n hn];simp [nth,List.getElem?_set_ne (show m≠n by omega)]) hk
  clear hst hk ih hv;obtain ⟨t,ht⟩:∃ t,c+w+p=t:=⟨_,rfl⟩;have ht2:t<1000000000000000000+2000000000:=by simp only [hZ] at *;omega
  rw [ht] at ih2 r5;obtain ⟨tm,htm⟩:∃ tm,t % Z=tm:=⟨_,rfl⟩;obtain ⟨td,htd⟩:∃ td,t / Z=td:=⟨_,rfl⟩;rw [htm] at ih2 r5;rw [htd] at ih2;have e2:(c:Int)+((w:Int)+(p:Int))=(t:Int):=aa;have e3:((t:Int) % 1000000000)=(tm:Int):=by simp only [hZ] at htm;omega
  have e4:((t:Int) / 1000000000)=(td:Int):=by simp only [hZ] at htd;omega
  refine av ?_;simp (disch:=try exact ac)[fX,r1,r2,r3,r4,e1,hpi,e2,Zt,Zs,e3,e4,r5];simpa using ih2
theorem Jh (ha:RdP h t0 da) (hsa:aE Z da) (hb:RdP h t1 db) (hsb:aE Z db) (hla:da.length<100000000) (hlb:db.length<100000000) (k:KL) (h0:Hp) (hh:h0.length=h.length+2) {N:Nat} (hN:N=da.length+db.length) :
  ∀ (r i:Nat) (o:List Nat),i+r=da.length->o.length=N->aE Z o->val Z o=val Z (da.take i)*val Z db->(∀ m,i+db.length<=m->nth 0 o m=0) ->
  (∀ o',o'.length=N->aE Z o'->val Z o'=val Z da*val Z db->k (.exit 0) [] (pH h o')) ->
  lp (fY (CX Y) h.length t1 (.ref h.length 1 0 N N N) t0 (I da.length)) [] h0 [I i] (pH h o) k:=by
 intro r
 induction r with
 | zero=>
  intro i o hi ho hs hv hf hk;refine av ?_;have g:¬ i<da.length:=aa;simp (disch:=try exact ac)[fY,g];rw [show i=da.length by omega,Xc] at hv;exact hk o ho hs hv
 | succ r ih=>
  intro i o hi ho hs hv hf hk;have hil:i<da.length:=aa;obtain ⟨pa,r1,r2⟩:=ha.2 [(1,.data 1 (o.map u6) true false),(0,.none)] i hil;obtain ⟨x,hx⟩:∃ x,nth 0 da i=x:=⟨_,rfl⟩;have hxs:x<Z:=by rw [<- hx];exact hsa.getD bf i
  rw [hx] at r2
  change ixV (pH h o) 1 t0 (I i)=some pa at r1
  change ld1 (pH h o) pa=_ at r2
  have hl:=hb.1;refine av ?_;simp (disch:=try exact ac)[fY,r1,r2,hl];refine lo (MA hb hsb hxs aa aa _ _ (Pv h o) (val Z o+Z ^ i*(x*val Z db)) o db.length 0 0 o aa bf ho hs af (fun _ _=>rfl) fun c' o' hc' ho' hs' hv' hf'=>?_);simp only [iN];obtain ⟨m,hm⟩:∃ m,m=i+db.length:=⟨_,rfl⟩
  have hml:m<o'.length:=aa;have r3:=zo (xN h o') ho'.symm (len:=N) (cap:=N) (i:=(m:Int)) aa aa .i64;have r5:=MF (xN h o') ho'.symm hml c';rw [Int.toNat_natCast] at r3;rw [Pt] at r5;have e1:((i:Int)+(db.length:Int))=(m:Int):=aa;have e0:nth 0 o' m=0:=by rw [hf' m aa,hf m aa]
  have hvs:=ui (B:=Z) o' m c' hml;rw [show o'.getD m 0=0 from e0] at hvs
  have ih2:=ih (i+1) (o'.set m c') aa (by simpa using ho') (hs'.set hc') (by
   rw [uZ da hil,show da.getD i 0=x from hx,Nat.add_mul,<- hv];rw [<- hm] at hv';rw [Nat.mul_assoc];omega) (fun n hn=>by
   simp only [nth,Zv,List.getElem?_set_ne (show m≠n by omega)];have:=hf' n aa;rw [hf n aa] at this;exact this) hk
  clear hvs hv' ih hk;simp (disch:=try exact ac)[hl,e1,r3,r5];simpa using ih2
theorem xx (hu:(h.all fun x=>dU h.length x.2)=true) (ha:RdP h t0 da) (hsa:aE Z da) (hb:RdP h t1 db) (hsb:aE Z db) (hla:da.length<100000000) (hlb:db.length<100000000) {N:Nat} (hN:N=da.length+db.length) :
  CI Y F.bc [t0,t1] h (.new 1 ((aY N (val Z da*val Z db)).map u6) true (dig Z (val Z da*val Z db)).length N) h:=by
 refine sk ?_;have l0:=ha.1;have l1:=hb.1;have e1:((da.length:Int)+(db.length:Int))=(N:Int):=aa;simp (disch:=try exact ac)[bc,l0,l1,e1]
 have e2:h++[(1,Bk.data 1 (List.replicate N (D.int IntKind.u64 0)) true false),(0,.none)]=pH h (List.replicate N 0):=by
  simp [pH,u6]
 have e3:(h++[(0,Bk.none),(0,Bk.none)]).set h.length (1,Bk.data 1 (List.replicate N (D.int IntKind.u64 0)) true false)=pH h (List.replicate N 0):=by
  simp [pH,u6]
 try simp only [e3]
 try rw [e2]
 refine lo (Jh ha hsa hb hsb hla hlb _ _ (Pv ..) hN da.length 0 (List.replicate N 0) aa af (fun x hx=>by rw [X9] at hx;rw [hx.2];exact bf) (by simp [Go.Big.mt,val]) (fun m _=>by
  by_cases hm:m<N
  ·rw [fL _ _ _ (by simpa using hm)];simp
  ·simp [nth,List.getElem?_eq_none (show (List.replicate N 0).length<=m by simp;omega)]) fun o ho hs hv=>?_)
 simp only [iN];have ht:fR (o.take N)=dig Z (val Z da*val Z db):=by rw [Zx aa,<- hv,oV ay hs]
 have hu2:((pH h o).all fun x=>dU (pH h o).length x.2)=true:=by
  have hm:(h.all fun x=>dU (pH h o).length x.2)=true:=Kz af hu;rw [pH,Xi,<- pH,hm];rfl
 have tr:=qF hu2 (xN h o) ho.symm (len:=N) (cap:=N) (Z7 _) aa (Z7 _);rw [ht] at tr;refine mZ tr ?_ af;have hol:o=aY N (val Z da*val Z db):=by rw [<- hv,<- ho];exact Ae o hs
 rw [<- hol];refine ⟨by simp [pH],by simpa using hu,.inr (.inr (.inl ⟨h.length,1,_,N,1,o.map u6,true,by simp [ho],Z7 _,by simp [aP,pH],rfl⟩))⟩
def trimS (n:Nat):List Nat:=if n=0 then [] else [n]
theorem N3 (n:Nat):fR [n]=trimS n:=by simp [fR,trimS]
theorem Mw (n:Nat):val Z (trimS n)=n:=by
 unfold trimS;split
 ·rename_i h;simp [val,h]
 ·simp [val]
theorem GK {n:Nat} (h:n<Z):aE Z (trimS n):=by
 unfold trimS;split
 ·exact fun x hx=>by cases hx
 ·exact fun x hx=>by simp at hx;omega
theorem AX (hu:(h.all fun x=>dU h.length x.2)=true) {f:Nat} (hf:f<Z) (hf0:0<f) (ha:RdP (h++[(0,.none),(0,.none)]) t0 da) (hsa:aE Z da) (hla:da.length<100000000) {N:Nat} (hN:N=da.length+1) :
  CI Y F.bM [t0,U f] h (.new 1 ((aY N (val Z da*f)).map u6) true (dig Z (val Z da*f)).length N) h:=by
 refine qY ?_
 have hli:∀ h:Hp,dE 1 [D.int .u64 0] [(0,U f)] h=some ([u6 f],h):=fun h=>by
  simp [dE,gG,jw,toD,u6]
 have hu2:((h++[(0,Bk.none),(0,.none)]).all fun x=>dU (h++[(0,Bk.none),(0,.none)]).length x.2)=true:=by
  rw [Xi,Kz af hu];rfl
 simp (disch:=try exact ac)[bM,hli];have t1:=RO hu2 (l:=[f]) af;rw [N3] at t1;refine mZ (args:=[lst u6 [f]]) t1 ?_ (by simp [lst]) (by simp [lst]);have hfl:(trimS f).length=1:=by simp [trimS,show f≠0 by omega]
 have t2:=xx hu2 ha hsa (Mq _ (trimS f)) (GK hf) hla aa (N:=N) aa;rw [Mw] at t2;simp (disch:=try exact ac)[];refine ir (e:=0) (b:=.none) t2 af ?_;refine ⟨af,by simpa using hu,.inr (.inr (.inl ⟨h.length+1,1,_,N,1,(aY N (val Z da*f)).map u6,true,by simp [cg],aa,by simp [aP],rfl⟩))⟩
end
end Go.Vm
namespace Go.Vm
open Go Go.Am Go.Big
def sP (h:Hp) (s e:Nat) (ex:Bool) (l:List Nat):Hp:=h.set s (e,.data 1 (l.map u6) ex false)
theorem pE {h:Hp} {s e:Nat} {ex:Bool} {l:List Nat} (hs:s<h.length):(sP h s e ex l)[s]? = some (e,.data 1 (l.map u6) ex false):=by simp [sP,hs]
theorem Oz {h:Hp} {s e:Nat} {ex:Bool} {l l':List Nat}:(sP h s e ex l).set s (e,.data 1 (l'.map u6) ex false)=sP h s e ex l':=by simp [sP]
@[simp] theorem aa5 {h:Hp} {s e:Nat} {ex:Bool} {l:List Nat}:(sP h s e ex l).length=h.length:=by simp [sP]
theorem tQ {b:Nat} {h:Hp} {s e:Nat} {ex:Bool} {l:List Nat} (hu:(h.all fun x=>dU b x.2)=true):((sP h s e ex l).all fun x=>dU b x.2)=true:=by
 rw [Zu] at hu ⊢;intro x hx;rcases Yk hx with h1 | h1
 ·exact hu x h1
 ·rw [h1];rfl
def RdS (P:Hp->Prop) (a:V) (l:List Nat):Prop:=bC a=some (I l.length)∧∀ (t:Hp) (i:Nat),P t->i<l.length->∃ p,ixV t 1 a (I i)=some p∧ld1 t p=some (U (nth 0 l i:Nat))
def gT (g at_:Nat) (db:List Nat):Nat->Nat->Nat->Nat->List Nat->Nat × List Nat
 | 0,_,_,w,l=>(w,l)
 | r+1,k,c,w,l=>
  if nth 0 l (at_+k)<(c+g*nth 0 db k) % Z+w then gT g at_ db r (k+1) ((c+g*nth 0 db k) / Z) 1 (l.set (at_+k) (nth 0 l (at_+k)+Z-((c+g*nth 0 db k) % Z+w)))
  else gT g at_ db r (k+1) ((c+g*nth 0 db k) / Z) 0 (l.set (at_+k) (nth 0 l (at_+k)-((c+g*nth 0 db k) % Z+w)))
section
variable {h:Hp} {s e tot at_ g:Nat} {ex:Bool} {t1:V} {db:List Nat}
theorem MB (hs:s<h.length) (hb:RdS (fun t=>∃ l,t=sP h s e ex l) t1 db) (hsb:aE Z db) (hg:g<Z) (hat:at_+db.length<tot) (ht:tot<1000000000000) {len cap:Nat} (hlen:tot=len) (k:KL) (h0:Hp) (hh:h0.length=h.length) :
  ∀ (r j c w:Nat) (l:List Nat),j+r=db.length+1->c<Z->w<=1->l.length=tot->aE Z l ->
  k (.exit 0) [I ((gT g at_ db r j c w l).1:Nat)] (sP h s e ex (gT g at_ db r j c w l).2) ->
  lp (eT (CX Y) h.length (.ref s e 0 len cap tot) t1 (U g) (I at_)) [] h0 [U c,I w,I j] (sP h s e ex l) k:=by
 intro r
 induction r with
 | zero=>
  intro j c w l hj hc hw hl hsl hk;refine av ?_;have g1:¬ j<=db.length:=aa;have hl1:=hb.1;simp (disch:=try exact ac)[eT,hl1,g1];exact hk
 | succ r ih=>
  intro j c w l hj hc hw hl hsl hk;have hjl:j<=db.length:=aa;obtain ⟨m,hm⟩:∃ m,m=at_+j:=⟨_,rfl⟩;have hml:m<l.length:=aa;obtain ⟨y,hy⟩:∃ y,nth 0 db j=y:=⟨_,rfl⟩;have hys:y<Z:=by rw [<- hy];exact hsb.getD bf j
  obtain ⟨x,hx⟩:∃ x,nth 0 l m=x:=⟨_,rfl⟩;have hxs:x<Z:=by rw [<- hx];exact hsl.getD bf m
  obtain ⟨p,hp⟩:∃ p,p=g*y:=⟨_,rfl⟩;have hxy:p<=999999999*999999999:=by rw [hp];exact Zq (by simp only [Z] at hg;omega) (by simp only [Z] at hys;omega)
  have hpi:(g:Int)*(y:Int)=(p:Int):=by rw [hp];simp
  have e1:((at_:Int)+(j:Int))=(m:Int):=aa;have hZ:Z=1000000000:=rfl;have hl1:=hb.1;have r3:=zo (pE (e:=e) (ex:=ex) (l:=l) hs) hl.symm (len:=len) (cap:=cap) (i:=(m:Int)) aa aa .i64;have r4:=FG (pE (e:=e) (ex:=ex) (l:=l) hs) hl.symm hml;have r5:=MF (pE (e:=e) (ex:=ex) (l:=l) hs) hl.symm hml;simp only [Oz] at r5;rw [hx] at r4;rw [Int.toNat_natCast] at r3
  rw [gT,hy,<- hp,<- hm,hx] at hk;have hsm:(∀ v,v<Z->aE Z (l.set m v)):=fun v hv=>hsl.set hv
  obtain ⟨t,ht1⟩:∃ t,c+p=t:=⟨_,rfl⟩;rw [ht1] at hk;obtain ⟨tm,htm⟩:∃ tm,t % Z=tm:=⟨_,rfl⟩;obtain ⟨td,htd⟩:∃ td,t / Z=td:=⟨_,rfl⟩;rw [htm,htd] at hk;have ht2:t<1000000000000000000:=by simp only [hZ] at *;omega
  have htdZ:td<Z:=by simp only [hZ] at *;omega
  have htmZ:tm<Z:=by simp only [hZ] at *;omega
  have e3:((t:Int) % 1000000000)=(tm:Int):=by simp only [hZ] at htm;omega
  have e4:((t:Int) / 1000000000)=(td:Int):=by simp only [hZ] at htd;omega
  have main:∀ (v:Nat) (w':Nat),v<Z->w'<=1->k (.exit 0) [I ((gT g at_ db r (j+1) td w' (l.set m v)).1:Nat)] (sP h s e ex (gT g at_ db r (j+1) td w' (l.set m v)).2) ->
    lp (eT (CX Y) h.length (.ref s e 0 len cap tot) t1 (U g) (I at_)) [] h0 [U td,I w',I (j+1:Nat)] (sP h s e ex (l.set m v)) k:=fun v w' hv hw' hk'=>
   ih (j+1) td w' (l.set m v) aa htdZ hw' (by simpa using hl) (hsm v hv) hk'
  clear ih;have e2:(c:Int)+(p:Int)=(t:Int):=aa;refine av ?_;simp (disch:=try exact ac)[eT,hl1,hjl];refine fU (l:=[U t]) (h:=sP h s e ex l) (fun q=>?_) ?_
  ·by_cases g2:j<db.length
   ·obtain ⟨pb,q1,q2⟩:=hb.2 (sP h s e ex l) j ⟨l,rfl⟩ g2;rw [hy] at q2;simp (disch:=try exact ac)[g2,q1,q2,hpi,e2]
   ·have hy0:nth 0 db j=0:=by simp [nth,List.getElem?_eq_none (show db.length<=j by omega)]
    rw [hy] at hy0;subst hy0;simp only [Nat.mul_zero] at hp;subst hp;obtain rfl:c=t:=aa;simp (disch:=try exact ac)[g2]
  ·simp (disch:=try exact ac)[e1,r3,r4,Zt,Zs,e3,e4];by_cases hxt:x<tm+w
   ·rw [if_pos hxt] at hk;obtain ⟨v,hv⟩:∃ v,x+Z-(tm+w)=v:=⟨_,rfl⟩;rw [hv] at hk;have hvZ:v<Z:=aa;have e5:(x:Int)-tm-w<0:=aa;have e6:(x:Int)-tm-w+1000000000=v:=by simp only [hZ] at hv;omega
    have r6:=r5 v;refine fU (l:=[I v,I (1:Nat)]) (h:=sP h s e ex l) (fun q=>?_) ?_
    ·simp (disch:=try exact ac)[e5,e6]
    ·simp (disch:=try exact ac)[e1,r3,r6];simpa using main v 1 hvZ (Z7 _) hk
   ·rw [if_neg hxt] at hk;obtain ⟨v,hv⟩:∃ v,x-(tm+w)=v:=⟨_,rfl⟩;rw [hv] at hk;have hvZ:v<Z:=aa;have e5:¬ ((x:Int)-tm-w<0):=aa;have e6:(x:Int)-tm-w=v:=aa;have r6:=r5 v;refine fU (l:=[I v,I (0:Nat)]) (h:=sP h s e ex l) (fun q=>?_) ?_
    ·rw [e6] at e5 ⊢;simp (disch:=try exact ac)[e5]
    ·simp (disch:=try exact ac)[e1,r3,r6];simpa using main v 0 hvZ (Yn _) hk
theorem GP (hu:(h.all fun x=>dU h.length x.2)=true) (hs:s<h.length) (hb:RdS (fun t=>∃ l,t=sP h s e ex l) t1 db) (hsb:aE Z db) (hg:g<Z) (hat:at_+db.length<tot) (ht:tot<1000000000000) {l:List Nat} (hl:l.length=tot) (hsl:aE Z l) :
  CI Y F.cU [.ref s e 0 tot tot tot,t1,U g,I at_] (sP h s e ex l) (B (decide (0<(gT g at_ db (db.length+1) 0 0 0 l).1))) (sP h s e ex (gT g at_ db (db.length+1) 0 0 0 l).2):=by
 refine tf ?_;simp (disch:=try exact ac)[cU];refine lo (MB hs hb hsb hg hat ht rfl _ _ af (db.length+1) 0 0 0 l aa bf (Yn _) hl hsl ?_);simp (disch:=try exact ac)[];refine ⟨(Zx af).symm,?_,.inl ⟨rfl,rfl⟩⟩;exact tQ hu
def oD (at_:Nat) (db:List Nat):Nat->Nat->Nat->List Nat->List Nat
 | 0,_,_,l=>l
 | r+1,k,c,l=>oD at_ db r (k+1) ((c+nth 0 l (at_+k)+nth 0 db k) / Z) (l.set (at_+k) ((c+nth 0 l (at_+k)+nth 0 db k) % Z))
theorem NK (hs:s<h.length) (hb:RdS (fun t=>∃ l,t=sP h s e ex l) t1 db) (hsb:aE Z db) (hat:at_+db.length<tot) (ht:tot<1000000000000) {len cap:Nat} (hlen:tot=len) (k:KL) (h0:Hp) (hh:h0.length=h.length) :
  ∀ (r j c:Nat) (l:List Nat),j+r=db.length+1->c<Z->l.length=tot->aE Z l ->
  k (.exit 0) [] (sP h s e ex (oD at_ db r j c l)) ->
  lp (gQ (CX Y) h.length (.ref s e 0 len cap tot) t1 (I at_)) [] h0 [U c,I j] (sP h s e ex l) k:=by
 intro r
 induction r with
 | zero=>
  intro j c l hj hc hl hsl hk;refine av ?_;have g1:¬ j<=db.length:=aa;have hl1:=hb.1;simp (disch:=try exact ac)[gQ,hl1,g1];exact hk
 | succ r ih=>
  intro j c l hj hc hl hsl hk;have hjl:j<=db.length:=aa;obtain ⟨m,hm⟩:∃ m,m=at_+j:=⟨_,rfl⟩;have hml:m<l.length:=aa;obtain ⟨y,hy⟩:∃ y,nth 0 db j=y:=⟨_,rfl⟩;have hys:y<Z:=by rw [<- hy];exact hsb.getD bf j
  obtain ⟨x,hx⟩:∃ x,nth 0 l m=x:=⟨_,rfl⟩;have hxs:x<Z:=by rw [<- hx];exact hsl.getD bf m
  have e1:((at_:Int)+(j:Int))=(m:Int):=aa;have hZ:Z=1000000000:=rfl;have hl1:=hb.1;have r3:=zo (pE (e:=e) (ex:=ex) (l:=l) hs) hl.symm (len:=len) (cap:=cap) (i:=(m:Int)) aa aa .i64;have r4:=FG (pE (e:=e) (ex:=ex) (l:=l) hs) hl.symm hml;have r5:=MF (pE (e:=e) (ex:=ex) (l:=l) hs) hl.symm hml;simp only [Oz] at r5;rw [hx] at r4;rw [Int.toNat_natCast] at r3
  rw [oD,hy,<- hm,hx] at hk;obtain ⟨t,ht1⟩:∃ t,c+x+y=t:=⟨_,rfl⟩;rw [ht1] at hk;obtain ⟨tm,htm⟩:∃ tm,t % Z=tm:=⟨_,rfl⟩;obtain ⟨td,htd⟩:∃ td,t / Z=td:=⟨_,rfl⟩;rw [htm,htd] at hk;have ht2:t<3000000000:=by simp only [hZ] at *;omega
  have htdZ:td<Z:=by simp only [hZ] at *;omega
  have htmZ:tm<Z:=by simp only [hZ] at *;omega
  have e3:((t:Int) % 1000000000)=(tm:Int):=by simp only [hZ] at htm;omega
  have e4:((t:Int) / 1000000000)=(td:Int):=by simp only [hZ] at htd;omega
  have ih2:=ih (j+1) td (l.set m tm) aa htdZ (by simpa using hl) (hsl.set htmZ) hk;have r6:=r5 tm;clear ih;refine av ?_;simp (disch:=try exact ac)[gQ,hl1,hjl,e1,r3,r4];refine fU (l:=[U t]) (h:=sP h s e ex l) (fun q=>?_) ?_
  ·by_cases g2:j<db.length
   ·obtain ⟨pb,q1,q2⟩:=hb.2 (sP h s e ex l) j ⟨l,rfl⟩ g2;rw [hy] at q2;have e2:(c:Int)+(x:Int)+(y:Int)=(t:Int):=aa;simp (disch:=try exact ac)[g2,q1,q2,e2]
   ·have hy0:nth 0 db j=0:=by simp [nth,List.getElem?_eq_none (show db.length<=j by omega)]
    rw [hy] at hy0;subst hy0;have e2:(c:Int)+(x:Int)=(t:Int):=aa;simp (disch:=try exact ac)[g2,e2]
  ·simp (disch:=try exact ac)[e1,r3,r4,Zt,Zs,e3,e4,r6];simpa using ih2
theorem I6 (hu:(h.all fun x=>dU h.length x.2)=true) (hs:s<h.length) (hb:RdS (fun t=>∃ l,t=sP h s e ex l) t1 db) (hsb:aE Z db) (hat:at_+db.length<tot) (ht:tot<1000000000000) {l:List Nat} (hl:l.length=tot) (hsl:aE Z l) :
  CI Y F.b9 [.ref s e 0 tot tot tot,t1,I at_] (sP h s e ex l) (.tup []) (sP h s e ex (oD at_ db (db.length+1) 0 0 l)):=by
 refine tn ?_;simp (disch:=try exact ac)[b9];refine lo (NK hs hb hsb hat ht rfl _ _ af (db.length+1) 0 0 l aa bf hl hsl ?_);simp (disch:=try exact ac)[];refine ⟨(Zx af).symm,?_,.inl ⟨rfl,rfl⟩⟩;exact tQ hu
end
end Go.Vm
namespace Go.Big
section
variable {B:Nat}
theorem jV (l:List Nat) (i:Nat) (h:i<=l.length):val B l=val B (l.take i)+B ^ i*val B (l.drop i):=by
 have:=val_append (B:=B) (l.take i) (l.drop i);rw [Xs,Zi,Yt h] at this;exact this
theorem RL (l:List Nat) (z:Nat):val B (l++List.replicate z 0)=val B l:=by rw [val_append,Go.Big.mt];simp
theorem GM (hB:0<B) {l:List Nat} {n:Nat} (h:val B l<B ^ n):val B (l.drop n)=0:=by
 rcases Zk n l.length with h1 | h1
 ·have:=jV (B:=B) l n aa;rcases Zf (val B (l.drop n)) with h2 | h2
  ·exact h2
  ·have:=Z3 (B ^ n) h2;omega
 ·rw [Y6 h1];rfl
variable {L lD lB x0 x1 x2 y0 y1 D v g r hi:Nat}
structure Gs (B L lD lB x0 x1 x2 y0 y1 D v hi:Nat):Prop where
 B0:0<B
 D_eq:D=lD+L*(x0+B*hi)
 v_eq:v=lB+L*(y0+B*y1)
 lDL:lD<L
 lBL:lB<L
 hx0:x0<B
 hy0:y0<B
 hy1:0<y1
 hD:D<B*v
theorem Gs.vpos (G:Gs B L lD lB x0 x1 x2 y0 y1 D v hi):L*B<=v:=by
 rw [G.v_eq]
 have h1:L*B<=L*(y0+B*y1):=Z3 L (by
  have:=Z3 B G.hy1;omega)
 omega
theorem Gs.pos (G:Gs B L lD lB x0 x1 x2 y0 y1 D v hi):0<v:=by
 have:=G.vpos;have h1:=G.lDL;have h2:0<L*B:=Yr aa G.B0;omega
theorem Gs.first (G:Gs B L lD lB x0 x1 x2 y0 y1 D v hi):D / v<=hi / y1:=by
 have hvp:=G.pos;rw [Wq G.hy1];have h1:D / v*v<=D:=Nat.div_mul_le_self D v;generalize D / v=q at *
 have h2:q*(L*(B*y1))<=q*v:=Z3 q (by
  rw [G.v_eq];have:=Z3 L (Nat.le_add_left (B*y1) y0);omega)
 have h3:D<L*B*(hi+1):=by
  rw [G.D_eq];have:=G.lDL;have h4:=Z3 L (show x0+1+B*hi<=B*(hi+1) by rw [Zp];have:=G.hx0;omega);rw [<- Nat.mul_assoc] at h4
  have h5:L*(x0+1+B*hi)=L+L*(x0+B*hi):=by
   rw [show x0+1+B*hi=1+(x0+B*hi) by omega,Zp];simp
  omega
 have h6:q*(L*(B*y1))=L*B*(q*y1):=by
  rw [<- Nat.mul_assoc L B y1,Yy]
 have h7:L*B*(q*y1)<L*B*(hi+1):=aa;have:=W5 h7;omega
theorem Gs.far (G:Gs B L lD lB x0 x1 x2 y0 y1 D v hi) (h:B<=g):D / v<g:=by
 have:=(W7 G.pos).2 G.hD;omega
theorem Gs.over (G:Gs B L lD lB x0 x1 x2 y0 y1 D v hi) (he:g*y1+r=hi) (h:r*B+x0<g*y0):D / v<g:=by
 rw [W7 G.pos]
 have h1:L*(x0+1+B*hi)<=g*v:=by
  rw [G.v_eq];have h2:g*(L*(y0+B*y1))<=g*(lB+L*(y0+B*y1)):=Z3 g aa
  have h3:g*(L*(y0+B*y1))=L*(g*y0+B*(g*y1)):=by
   rw [Yy g L,Zp,Yy g B]
  have h4:L*(x0+1+B*hi)<=L*(g*y0+B*(g*y1)):=Z3 L (by
   rw [<- he,Zp,Zy B r];omega)
  omega
 have h5:L*(x0+1+B*hi)=L+L*(x0+B*hi):=by
  rw [show x0+1+B*hi=1+(x0+B*hi) by omega,Zp];simp
 have:=G.lDL;rw [G.D_eq];omega
theorem Gs.near (G:Gs B L lD lB x0 x1 x2 y0 y1 D v hi) (he:g*y1+r=hi) (hg:g<B) (h:¬ (r<B∧r*B+x0<g*y0)):g*v<D+v:=by
 have h0:g*(y0+B*y1)<=x0+B*hi:=by
  rw [Zp,Yy g B,<- he,Zp];by_cases hr:r<B
  ·have:¬ r*B+x0<g*y0:=fun h'=>h ⟨hr,h'⟩
   rw [Zy r B] at this;omega
  ·have h1:g*y0<=B*B:=Zq aa (by have:=G.hy0;omega);have h2:=Z3 B (show B<=r by omega);omega
 have h1:=Z3 L h0
 have h2:g*lB<L*B:=by
  have:=Zq (show g<=B-1 by omega) (show lB<=L by have:=G.lBL;omega);have hL:0<L:=by have:=G.lBL;omega
  have h3:(B-1)*L+L=L*B:=by
   have:=G.B0;obtain ⟨b,rfl⟩:∃ b,B=b+1:=⟨B-1,aa⟩;rw [Xq,Zy L,Xn]
  omega
 have h3:g*v=g*lB+L*(g*(y0+B*y1)):=by
  rw [G.v_eq,Zp,Yy g L]
 have h4:=G.vpos;have h5:=G.D_eq;omega
theorem Gs.le (G:Gs B L lD lB x0 x1 x2 y0 y1 D v hi) (h:g*v<D+v):g<=D / v+1:=by
 have h1:=Xy D v;have h2:=Yw D G.pos;rcases Zk (D / v+1) g with h3 | h3
 ·have h4:=Z4 v (show D / v+2<=g by omega);rw [Nat.add_mul,Zy (D / v) v] at h4;omega
 ·exact h3
end
end Go.Big
namespace Go.Vm
open Go Go.Am Go.Big
theorem vE {l:List Nat} {m n v:Nat} (h:m≠n):nth 0 (l.set m v) n=nth 0 l n:=by simp [nth,List.getElem?_set_ne h]
structure Frm (l l':List Nat) (a b:Nat):Prop where
 len:l'.length=l.length
 same:∀ m,m<a∨b<=m->nth 0 l' m=nth 0 l m
theorem AI {g at_:Nat} (hg:g<Z) {db:List Nat} (hsb:aE Z db):∀ (r j c w:Nat) (l:List Nat),at_+j+r<=l.length->c<Z->w<=1->aE Z l->c+g*val Z (db.drop j)<Z ^ r ->
  Frm l (gT g at_ db r j c w l).2 (at_+j) (at_+j+r)∧aE Z (gT g at_ db r j c w l).2∧(gT g at_ db r j c w l).1<=1 ∧
  val Z (gT g at_ db r j c w l).2+Z ^ (at_+j)*(c+g*val Z (db.drop j)+w)=val Z l+Z ^ (at_+j+r)*(gT g at_ db r j c w l).1
 | 0,j,c,w,l,hl,hc,hw,hs,hT=>by
  have h0:c+g*val Z (db.drop j)=0:=by simp at hT;omega
  refine ⟨⟨rfl,fun _ _=>rfl⟩,hs,hw,?_⟩;rw [h0,Zh];rfl
 | r+1,j,c,w,l,hl,hc,hw,hs,hT=>by
  obtain ⟨m,hm⟩:∃ m,m=at_+j:=⟨_,rfl⟩;have hml:m<l.length:=aa;obtain ⟨x,hx⟩:∃ x,nth 0 l m=x:=⟨_,rfl⟩;have hxs:x<Z:=by rw [<- hx];exact hs.getD bf m
  obtain ⟨y,hy⟩:∃ y,nth 0 db j=y:=⟨_,rfl⟩;rw [gT,hy,<- hm,hx];have hvd:val Z (db.drop j)=y+Z*val Z (db.drop (j+1)):=by rw [nR,show db.getD j 0=y from hy]
  obtain ⟨V,hV⟩:∃ V,val Z (db.drop (j+1))=V:=⟨_,rfl⟩;rw [hvd,hV] at hT ⊢;obtain ⟨t,ht⟩:∃ t,c+g*y=t:=⟨_,rfl⟩;rw [ht];obtain ⟨tm,htm⟩:∃ tm,t % Z=tm:=⟨_,rfl⟩;obtain ⟨td,htd⟩:∃ td,t / Z=td:=⟨_,rfl⟩;have hdm:t=tm+Z*td:=by rw [<- htm,<- htd];exact (Xh t Z).symm
  have htmZ:tm<Z:=by rw [<- htm];exact Yw _ bf
  rw [htm,htd]
  have hsum:c+g*(y+Z*V)=tm+Z*(td+g*V):=by
   rw [Zp,Yy g Z,Zp];omega
  rw [hsum] at hT ⊢
  have hT2:td+g*V<Z ^ r:=by
   rw [Nat.pow_succ,Zy (Z ^ r)] at hT;have:Z*(td+g*V)<Z*Z ^ r:=aa;exact W5 this
  have htdZ:td<Z∨True:=.inr trivial
  have step:∀ (v w':Nat),v<Z->w'<=1->v+(tm+w)=x+Z*w'->td<Z ->
    Frm l (gT g at_ db r (j+1) td w' (l.set m v)).2 (at_+j) (at_+j+(r+1))∧aE Z (gT g at_ db r (j+1) td w' (l.set m v)).2∧(gT g at_ db r (j+1) td w' (l.set m v)).1<=1 ∧
    val Z (gT g at_ db r (j+1) td w' (l.set m v)).2+Z ^ m*(tm+Z*(td+g*V)+w)=val Z l+Z ^ (m+(r+1))*(gT g at_ db r (j+1) td w' (l.set m v)).1:=by
   intro v w' hv hw' he htd2;obtain ⟨⟨f1,f2⟩,i2,i3,i4⟩:=AI hg hsb (g:=g) (at_:=at_) r (j+1) td w' (l.set m v) au htd2 hw' (hs.set hv) (by rw [hV];exact hT2);refine ⟨⟨by rw [f1];simp,fun n hn=>?_⟩,i2,i3,?_⟩
   ·rw [f2 n aa,vE aa]
   ·have hvs:=ui (B:=Z) l m v hml;rw [show l.getD m 0=x from hx] at hvs;rw [hV,show at_+(j+1)=m+1 by omega] at i4;rw [show m+(r+1)=m+1+r by omega];generalize val Z (gT g at_ db r (j+1) td w' (l.set m v)).2=R at *;generalize (gT g at_ db r (j+1) td w' (l.set m v)).1=W at *;generalize val Z (l.set m v)=R1 at *;generalize val Z l=R0 at *;generalize td+g*V=T at *
    rw [Nat.pow_succ Z m,Nat.mul_assoc (Z ^ m) Z (T+w')] at i4;generalize Z ^ m=P at *;have h1:P*v+P*(tm+w)=P*x+P*(Z*w'):=by rw [<- Zp,<- Zp,he]
    have h2:P*(Z*(T+w'))=P*(Z*T)+P*(Z*w'):=by rw [Zp Z,Zp]
    have h3:P*(tm+Z*T+w)=P*(tm+w)+P*(Z*T):=by rw [<- Zp];congr 1;omega
    omega
  have htd2:td<Z:=by
   have hy2:y<Z:=by rw [<- hy];exact hsb.getD bf j
   have:=Zq (show g<=999999999 by simp only [Z] at hg;omega) (show y<=999999999 by simp only [Z] at hy2;omega);simp only [Z] at *;omega
  rw [<- hm] at step;by_cases hlt:x<tm+w
  ·simp only [if_pos hlt];exact step _ 1 aa (Z7 _) aa htd2
  ·simp only [if_neg hlt];exact step _ 0 aa (Yn _) aa htd2
theorem Cj {at_:Nat} {db:List Nat} (hsb:aE Z db):∀ (r j c:Nat) (l:List Nat),at_+j+r<=l.length->c<=1->aE Z l ->
  Frm l (oD at_ db r j c l) (at_+j) (at_+j+r)∧aE Z (oD at_ db r j c l) ∧
  ∃ ce,val Z (oD at_ db r j c l)+Z ^ (at_+j+r)*(ce+val Z (db.drop (j+r)))=val Z l+Z ^ (at_+j)*(c+val Z (db.drop j))
 | 0,j,c,l,hl,hc,hs=>⟨⟨rfl,fun _ _=>rfl⟩,hs,c,rfl⟩
 | r+1,j,c,l,hl,hc,hs=>by
  obtain ⟨m,hm⟩:∃ m,m=at_+j:=⟨_,rfl⟩;have hml:m<l.length:=aa;obtain ⟨x,hx⟩:∃ x,nth 0 l m=x:=⟨_,rfl⟩;have hxs:x<Z:=by rw [<- hx];exact hs.getD bf m
  obtain ⟨y,hy⟩:∃ y,nth 0 db j=y:=⟨_,rfl⟩;have hys:y<Z:=by rw [<- hy];exact hsb.getD bf j
  rw [oD,hy,<- hm,hx];have hvd:val Z (db.drop j)=y+Z*val Z (db.drop (j+1)):=by rw [nR,show db.getD j 0=y from hy]
  obtain ⟨t,ht⟩:∃ t,c+x+y=t:=⟨_,rfl⟩;rw [ht];obtain ⟨tm,htm⟩:∃ tm,t % Z=tm:=⟨_,rfl⟩;obtain ⟨td,htd⟩:∃ td,t / Z=td:=⟨_,rfl⟩;have hdm:t=tm+Z*td:=by rw [<- htm,<- htd];exact (Xh t Z).symm
  have htmZ:tm<Z:=by rw [<- htm];exact Yw _ bf
  have htd1:td<=1:=by simp only [Z] at *;omega
  rw [htm,htd];obtain ⟨⟨f1,f2⟩,i2,ce,i4⟩:=Cj hsb (at_:=at_) r (j+1) td (l.set m tm) au htd1 (hs.set htmZ);refine ⟨⟨by rw [f1];simp,fun n hn=>?_⟩,i2,ce,?_⟩
  ·rw [f2 n aa,vE aa]
  ·have hvs:=ui (B:=Z) l m tm hml;rw [show l.getD m 0=x from hx] at hvs;rw [show at_+(j+1)=m+1 by omega,show j+1+r=j+(r+1) by omega] at i4;rw [show m+(r+1)=m+1+r by omega,hvd];generalize val Z (oD at_ db r (j+1) td (l.set m tm))=R at *;generalize val Z (l.set m tm)=R1 at *;generalize val Z l=R0 at *;generalize val Z (db.drop (j+1))=V at *
   rw [Nat.pow_succ Z m,Nat.mul_assoc (Z ^ m) Z (td+V)] at i4;generalize Z ^ (m+1+r)*(ce+val Z (db.drop (j+(r+1))))=Q at *;generalize Z ^ m=P at *;have h1:P*tm+P*(Z*td)=P*x+P*(c+y):=by rw [<- Zp,<- Zp,<- hdm,<- ht];congr 1;omega
   have h2:P*(Z*(td+V))=P*(Z*td)+P*(Z*V):=by rw [Zp Z,Zp]
   have h3:P*(c+(y+Z*V))=P*(c+y)+P*(Z*V):=by rw [<- Zp];congr 1;omega
   omega
theorem Frm.take {l l':List Nat} {a b:Nat} (h:Frm l l' a b):l'.take a=l.take a:=by
 refine List.ext_getElem (by simp [h.len]) fun i h1 h2=>?_
 simp only [Zi] at h1 h2;have:=h.same i (.inl aa);rw [fL _ _ _ aa,fL _ _ _ aa] at this;simpa using this
theorem Frm.drop {l l':List Nat} {a b:Nat} (h:Frm l l' a b):l'.drop b=l.drop b:=by
 refine List.ext_getElem (by simp [h.len]) fun i h1 h2=>?_
 simp only [Xr] at h1 h2;have:=h.same (b+i) (.inr aa);rw [fL _ _ _ aa,fL _ _ _ aa] at this;simpa using this
theorem IG {al db:List Nat} {i g:Nat} (hsa:aE Z al) (hsb:aE Z db) (hi:i+db.length<al.length) (hg:g<Z) (hD:val Z (al.drop i)<Z*val Z db) (h1:g*val Z db<val Z (al.drop i)+val Z db) (h2:val Z (al.drop i) / val Z db<=g)
  {w:Nat} {l1 l2:List Nat} (hw:(gT g i db (db.length+1) 0 0 0 al).1=w) (hl1:(gT g i db (db.length+1) 0 0 0 al).2=l1) (hl2:oD i db (db.length+1) 0 0 l1=l2) :
  (l1.length=al.length∧aE Z l1) ∧
  (w=0->aE Z l1∧l1.length=al.length∧l1.take i=al.take i∧g=val Z (al.drop i) / val Z db∧val Z (l1.drop i)=val Z (al.drop i) % val Z db) ∧
  (0<w->aE Z l2∧l2.length=al.length∧l2.take i=al.take i∧0<g∧g-1=val Z (al.drop i) / val Z db∧val Z (l2.drop i)=val Z (al.drop i) % val Z db):=by
 have hvb:=iw (B:=Z) bf hsb
 have hvp:0<val Z db:=by
  rcases Zf (val Z db) with h | h
  ·rw [h] at hD;simp at hD
  ·exact h
 have hpow:Z ^ (db.length+1)=Z*Z ^ db.length:=by rw [Nat.pow_succ,Zy]
 have hDlt:val Z (al.drop i)<Z ^ (db.length+1):=by
  rw [hpow];exact Nat.lt_trans hD (Nat.mul_lt_mul_of_pos_left hvb bf)
 have htop:val Z (al.drop (i+(db.length+1)))=0:=by
  rw [<- List.drop_drop];exact GM bf hDlt
 obtain ⟨f,s1,w1,e⟩:=AI hg hsb (db.length+1) 0 0 0 al aa bf (Yn _) hsa (by
  rw [Yg,Zh,hpow];have a1:=Z3 g (show val Z db<=Z ^ db.length by omega);have a2:=Nat.mul_lt_mul_of_pos_right hg (show 0<Z ^ db.length from Ya bf);omega) (at_:=i) (g:=g)
 rw [hw,hl1] at e;rw [hl1] at f s1;rw [hw] at w1;simp only [Nat.add_zero,Yg,Zh] at e f;have len1:=f.len
 have below:∀ {l:List Nat},aE Z l->l.drop (i+(db.length+1))=al.drop (i+(db.length+1))->val Z (l.drop i)<Z ^ (db.length+1):=fun {l} hs he=>by
  have hz:=jV (B:=Z) (l.drop i) (min (db.length+1) (l.drop i).length) (Nat.min_le_right ..);by_cases hc:db.length+1<=(l.drop i).length
  ·rw [Yt hc,List.drop_drop,he,htop,Nat.mul_zero,Nat.add_zero] at hz;rw [hz];have:=iw (B:=Z) bf ((hs.drop i).take (db.length+1));rw [Zi,Yt hc] at this;exact this
  ·have:=iw (B:=Z) bf (hs.drop i);exact Z0 this (Z2 bf aa)
 have hsp:∀ {l:List Nat},l.length=al.length->l.take i=al.take i->val Z l=val Z (al.take i)+Z ^ i*val Z (l.drop i):=fun {l} h h'=>by
  rw [<- h'];exact jV l i aa
 have hal:=jV (B:=Z) al i aa;have hdm:=Xy (val Z (al.drop i)) (val Z db);have hml:=Yw (val Z (al.drop i)) hvp;have b1:=below s1 f.drop;rw [hsp len1 f.take,hal,Yx,Nat.mul_assoc (Z ^ i)] at e
 have e2:val Z (l1.drop i)+g*val Z db=val Z (al.drop i)+Z ^ (db.length+1)*w:=by
  have:Z ^ i*(val Z (l1.drop i)+g*val Z db)=Z ^ i*(val Z (al.drop i)+Z ^ (db.length+1)*w):=by rw [Zp,Zp];omega
  exact Xu (Ya bf) this
 obtain ⟨D,hDe⟩:∃ D,val Z (al.drop i)=D:=⟨_,rfl⟩;obtain ⟨v,hve⟩:∃ v,val Z db=v:=⟨_,rfl⟩;refine ⟨⟨len1,s1⟩,fun w0=>?_,fun wp=>?_⟩
 ·subst w0;rw [Nat.mul_zero,Nat.add_zero] at e2
  have hq:g=val Z (al.drop i) / val Z db:=by
   refine Nat.le_antisymm ?_ h2;rw [Wq hvp];omega
  refine ⟨s1,len1,f.take,hq,?_⟩;rw [<- hq] at hdm;rw [Zy] at hdm;omega
 ·have hw1:w=1:=aa;subst hw1;obtain ⟨f2,s2,ce,e3⟩:=Cj hsb (at_:=i) (db.length+1) 0 0 l1 aa (Yn _) s1;rw [hl2] at f2 s2 e3;simp only [Nat.add_zero,Yg,Zh] at e3 f2;have hdn:db.drop (db.length+1)=[]:=Y6 aa;rw [hdn,show val Z []=0 from rfl] at e3;simp only [Nat.add_zero] at e3
  have len2:l2.length=al.length:=by rw [f2.len,len1]
  have tk2:l2.take i=al.take i:=by rw [f2.take,f.take]
  have b2:=below s2 (by rw [f2.drop,f.drop]);rw [hsp len2 tk2,hsp len1 f.take,Yx,Nat.mul_assoc (Z ^ i)] at e3
  have e4:val Z (l2.drop i)+Z ^ (db.length+1)*ce=val Z (l1.drop i)+val Z db:=by
   have:Z ^ i*(val Z (l2.drop i)+Z ^ (db.length+1)*ce)=Z ^ i*(val Z (l1.drop i)+val Z db):=by rw [Zp,Zp];omega
   exact Xu (Ya bf) this
  have hgl:g*val Z db<=(val Z (al.drop i) / val Z db+1)*val Z db:=by
   rcases Zk (val Z (al.drop i) / val Z db+1) g with h3 | h3
   ·exfalso;have h4:=Z4 (val Z db) (show val Z (al.drop i) / val Z db+2<=g by omega);rw [Nat.add_mul,Zy (val Z (al.drop i) / val Z db)] at h4;omega
   ·exact Z4 _ h3
  have hgp:0<g:=by
   rcases Zf g with h | h
   ·subst h;omega
   ·exact h
  have hgq:g=val Z (al.drop i) / val Z db+1:=by
   refine Nat.le_antisymm ?_ ?_
   ·exact Nat.le_of_mul_le_mul_right hgl hvp
   ·rw [Nat.succ_le_iff,W7 hvp];omega
  refine ⟨s2,len2,tk2,hgp,aa,?_⟩;rw [hgq,Nat.add_mul,Xz,Zy (val Z (al.drop i) / val Z db)] at e2;generalize Z ^ (db.length+1)=P at *
  have hce:ce=1:=by
   rcases Zk ce 1 with h | h
   ·have:ce=0:=aa;subst this;omega
   ·rcases Zk ce 2 with h' | h'
    ·omega
    ·have:=Z3 P h';omega
  subst hce;omega
def Fj (o:List Nat):Hp:=[(1,.data 1 (o.map u6) true false),(0,.none)]
theorem wy (o:List Nat):(Fj o)[0]? = some (1,.data 1 (o.map u6) true false):=rfl
theorem Px (o o':List Nat):(Fj o).set 0 (1,.data 1 (o'.map u6) true false)=Fj o':=rfl
@[simp] theorem XQ (o:List Nat):(Fj o).length=2:=rfl
theorem yB {p:List Nat} (hsp:aE Z p) (hpl:p.length<1000000000000) {n N:Nat} (hn:0<n) (hnZ:n<=Z) (hN:N=p.length) (k:KL) (h0:Hp) (hh:h0.length=2) :
  ∀ (i:Nat) (o:List Nat) (r:Nat),i<=p.length->o.length=N->aE Z o->r<n->val Z (p.drop i)=n*val Z (o.drop i)+r ->
  (∀ o' r',o'.length=N->aE Z o'->r'<n->val Z p=n*val Z o'+r'->k (.exit 0) [U (r':Nat)] (Fj o')) ->
  lp (gh (CX Y) (lst u6 p) (U n) (.ref 0 1 0 N N N)) [] h0 [U r,I ((i:Int)-1)] (Fj o) k
 | 0,o,r,hi,ho,hso,hr,hv,hk=>by
  refine av ?_;simp (disch:=try exact ac)[gh];exact hk o r ho hso hr (by simpa using hv)
 | i+1,o,r,hi,ho,hso,hr,hv,hk=>by
  obtain ⟨x,hx⟩:∃ x,nth 0 p i=x:=⟨_,rfl⟩;have hxs:x<Z:=by rw [<- hx];exact hsp.getD bf i
  have e1:=fun h:Hp=>cC u6 p h (k:=.i64) (i:=(i:Int)) aa aa
  have e2:=fun h:Hp=>BB p h (j:=i) aa
  rw [hx] at e2;have r3:=zo (wy o) ho.symm (len:=N) (cap:=N) (i:=(i:Int)) aa aa .i64;have r5:=MF (wy o) ho.symm (j:=i) aa;simp only [Px] at r5;simp only [Int.toNat_natCast] at e1 r3;have e0:((i+1:Nat):Int)-1=(i:Int):=aa;have hZ:Z=1000000000:=rfl;obtain ⟨t,ht⟩:∃ t,r*Z+x=t:=⟨_,rfl⟩;obtain ⟨q,hq⟩:∃ q,t / n=q:=⟨_,rfl⟩
  obtain ⟨r2,hr2⟩:∃ r2,t % n=r2:=⟨_,rfl⟩;have hdm:n*q+r2=t:=by rw [<- hq,<- hr2];exact Xy t n
  have hr2n:r2<n:=by rw [<- hr2];exact Yw _ hn
  have htn:t<Z*n:=by
   have:=Z4 Z (show r+1<=n by omega);rw [Nat.add_mul,Zy n Z] at this;omega
  have hqZ:q<Z:=by rw [<- hq];exact Yf (by rw [Zy];exact htn)
  have htb:t<1000000000000000001:=by
   have:=Z3 Z hnZ;simp only [hZ] at *;omega
  have hdr:(o.set i q).drop i=q::o.drop (i+1):=by
   rw [List.drop_set,if_neg aa,Nat.sub_self];rw [Yv (show i<o.length by omega)];rfl
  have ih:=yB hsp hpl hn hnZ hN k h0 hh i (o.set i q) r2 aa (by simpa using ho) (hso.set hqZ) hr2n (by
   rw [nR,show p.getD i 0=x from hx,hv,hdr];simp only [val];rw [Zp,Zp,Yy n Z,Zy Z r];omega) hk
  have r6:=r5 q;have e3:(r:Int)*1000000000+(x:Int)=(t:Int):=by simp only [hZ] at ht;omega
  have e4:(t:Int) / (n:Int)=(q:Int):=by rw [<- hq];simp
  have e5:(t:Int) % (n:Int)=(r2:Int):=by rw [<- hr2];simp
  have hrb:r<1000000000:=by simp only [hZ] at hnZ;omega
  have hn0:¬ ((n:Int)=0):=aa;have hqb:(q:Int)<18446744073709551616:=by simp only [hZ] at hqZ;omega
  refine av ?_;rw [e0];simp (disch:=try exact ac)[gh,e1,e2,e3,r3,hn0,Zt,Zs,e4,e5,r6,hh];simpa using ih
theorem Dt (l:List Nat):∃ z,l=fR l++List.replicate z 0:=by
 induction hn:l.length generalizing l with
 | zero=>
  have:l=[]:=Zj hn;subst this;exact ⟨0,rfl⟩
 | succ n ih=>
  obtain ⟨l,x,rfl⟩:∃ l' x,l=l'++[x]:=⟨l.dropLast,l.getLast (by intro e;simp [e] at hn),(List.dropLast_concat_getLast _).symm⟩;by_cases hx:x=0
  ·subst hx;rw [oe];obtain ⟨z,hz⟩:=ih l (by simpa using hn);refine ⟨z+1,?_⟩
   conv=>lhs;rw [hz]
   rw [List.append_assoc,List.replicate_succ']
  ·rw [vl hx];exact ⟨0,af⟩
theorem xA {l:List Nat}:l.take (fR l).length=fR l:=by
 obtain ⟨z,hz⟩:=Dt l;generalize fR l=t at *;subst hz;rw [Xx rfl]
theorem u5 (h:Hp) (n:Int):aI h (U n)=some (U n,h):=rfl
theorem ax {h h1 h2:Hp} {a b va vb:V} (ha:aI h a=some (va,h1)) (hb:aI h1 b=some (vb,h2)):out (.tup [va,vb]) (.tup [a,b]) h:=
 ⟨h2,by simp only [aI,ai,ha,hb]⟩
theorem iI {h h1 h2 h3:Hp} {a b c va vb vc:V} (ha:aI h a=some (va,h1)) (hb:aI h1 b=some (vb,h2)) (hc:aI h2 c=some (vc,h3)):out (.tup [va,vb,vc]) (.tup [a,b,c]) h:=
 ⟨h3,by simp only [aI,ai,ha,hb,hc]⟩
theorem Dy {a n:Nat} (ha:(dig Z a).length<100000000) (hn:0<n) (hnZ:n<=Z):CP Y F.ci [pcs a,U n] (.tup [pcs (a / n),U (a % n:Nat)]):=by
 refine sC ?_;obtain ⟨p,hp⟩:∃ p,dig Z a=p:=⟨_,rfl⟩;have hsp:aE Z p:=by rw [<- hp];exact bX ay a
 have hval:val Z p=a:=by rw [<- hp];exact gz ay a
 rw [pcs,hp];rw [hp] at ha;simp (disch:=try exact ac)[ci];have e2:[(1,Bk.data 1 (List.replicate p.length (D.int IntKind.u64 0)) true false),(0,.none)]=Fj (List.replicate p.length 0):=by simp [Fj,u6]
 rw [e2];refine lo (yB hsp aa hn hnZ rfl _ _ rfl p.length (List.replicate p.length 0) 0 (Z7 _) af (fun x hx=>by rw [X9] at hx;rw [hx.2];exact bf) hn (by rw [List.drop_length,Y6 af];simp [val]) fun o r ho hs hr hv=>?_);simp only [iN];rw [hval] at hv
 have hq:val Z o=a / n:=by rw [hv,Nat.mul_add_div hn,Ww hr,Nat.add_zero]
 have hr2:r=a % n:=by rw [hv,Nat.mul_add_mod,Yb hr]
 have ht:fR (o.take p.length)=dig Z (a / n):=by rw [Zx aa,<- hq,oV ay hs]
 have tr:=qF (h:=Fj o) rfl (wy o) ho.symm (len:=p.length) (cap:=p.length) (Z7 _) aa (Z7 _);rw [ht] at tr;refine mZ tr ?_ af
 have htl:o.take (dig Z (a / n)).length=dig Z (a / n):=by
  have h2:fR o=dig Z (a / n):=by rw [<- hq,oV ay hs]
  rw [<- h2];exact xA
 have sn:=tG (wy o) ho.symm (len:=(dig Z (a / n)).length) (cap:=p.length) (by rw [mU ay,<- hq,<- ho];exact iw bf hs) (Z7 _);rw [htl] at sn;have e6:((a:Int) % (n:Int))=((a % n:Nat):Int):=af;rw [hr2,e6];exact ax sn (u5 _ _)
end Go.Vm
