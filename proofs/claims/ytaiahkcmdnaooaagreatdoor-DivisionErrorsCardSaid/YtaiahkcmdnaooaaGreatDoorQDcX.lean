/- Pieces of nine digits (package decimal): slots, trim. -/
import Derived.Test.YtaiahkcmdnaooaaGreatDoorQMath
import Derived.Test.YtaiahkcmdnaooaaGreatDoorQRefMul
import Derived.Test.YtaiahkcmdnaooaaGreatDoorQT
set_option linter.unusedVariables false
set_option linter.unusedSimpArgs false
namespace Go.Vm
open Go Go.Am Go.Big
def u6 (n:Nat):D:=.int .u64 n
abbrev U (n:Int):V:=.d (.int .u64 n)
@[simp] theorem ZE (n:Nat):V.d (u6 n)=U n:=id rfl
def pcs (n:Nat):V:=lst u6 (dig Z n)
theorem SK (n:Nat):pcs n=lst u6 (dig Z n):=rfl
theorem zS (l:List Nat) (h:Hp) {j:Nat} (hl:j<l.length):ld1 h (.dptr (l.map u6) j)=some (U (nth 0 l j:Nat)):=eZ u6 0 l h hl
section
variable {h:Hp} {s e tot:Nat} {l:List Nat} {ex fr:Bool}
theorem xL (hg:h[s]? = some (e,.data 1 (l.map u6) ex fr)) (ht:tot=l.length) {len cap:Nat} {i:Int} (h0:0<=i) (h1:i<len) (k:IntKind):ixV h 1 (.ref s e 0 len cap tot) (.d (.int k i))=some (.ptr s e i.toNat tot):=by
 simp only [ixV,dM hg];rw [if_pos ⟨by simp [ht],h0,h1⟩];simp
theorem Ek (hg:h[s]? = some (e,.data 1 (l.map u6) ex fr)) (ht:tot=l.length) {j:Nat} (hj:j<l.length):ld1 h (.ptr s e j tot)=some (U (nth 0 l j:Nat)):=by
 have e1:tot=(l.map u6).length:=by simp [ht]
 simp only [ld1,dM hg,if_pos e1,List.getElem?_map,List.getElem?_eq_getElem hj,Option.map_some,gD 0 l j hj];rfl
theorem KR (hg:h[s]? = some (e,.data 1 (l.map u6) ex false)) (ht:tot=l.length) {j:Nat} (hj:j<l.length) (x:Nat):st h 1 (.ptr s e j tot) (U x)=some (h.set s (e,.data 1 ((l.set j x).map u6) ex false)):=by
 have e1:(l.map u6).take j++[u6 x]++(l.map u6).drop (j+1)=(l.set j x).map u6:=by
  rw [List.map_set,Xv,if_pos aR];simp
 simp only [st,if_true,sto,dM hg,kI,toD];rw [if_pos ⟨trivial,by simp [ht],aR⟩];simp only [du,List.length_singleton];rw [<- e1];rfl
theorem WT (hg:h[s]? = some (e,.data 1 (l.map u6) ex fr)) (ht:tot=l.length) {len cap:Nat} {i:Int} (h0:0<=i) (h1:i<=cap) (hlc:len<=cap):slV h 1 (.ref s e 0 len cap tot) none (some (I i))=some (.ref s e 0 i.toNat cap tot):=by
 simp only [slV,dM hg,boV];rw [if_pos ⟨aa,h1⟩];simp [ht,hlc]
theorem rC (hg:h[s]? = some (e,.data 1 (l.map u6) ex fr)) (ht:tot=l.length) {len cap:Nat} (h1:len<=cap) (hc:cap<=tot):bY h (.ref s e 0 len cap tot)=some (lst u6 (l.take len),h.set s (e,.data 1 (l.map u6) ex true)):=by
 simp only [bY,toD,dM hg];rw [if_pos ⟨by simp [ht],h1,aR⟩];simp [lst,List.map_take,du];omega
end
theorem B8 {h:Hp} {s e cap tot:Nat} {l:List Nat} {ex fr:Bool} (hg:h[s]? = some (e,.data 1 (l.map u6) ex fr)) (ht:tot=l.length) (hc:cap<=tot) (hb:cap<1000000000000) (k:KL) (h0:Hp) (hh:h0.length=h.length):∀ len,len<=cap->k (.exit 0) [.ref s e 0 (fD (l.take len)).length cap tot] h->lp (bw (CX Y) h.length) [] h0 [.ref s e 0 len cap tot] h k
 | 0,hl,hk=>by
  refine ax ?_;simp (disch:=try exact ac)[bw];simpa [fD] using hk
 | len+1,hl,hk=>by
  have e1:=xL hg ht (len:=len+1) (cap:=cap) (i:=(len:Int)) aa aa .i64;have e2:=Ek hg ht (j:=len) aa;have e3:=WT hg ht (len:=len+1) (cap:=cap) (i:=(len:Int)) aa aa aa;have e4:l.take (len+1)=l.take len++[nth 0 l len]:=by rw [gD 0 l len aa,List.take_append_getElem]
  rw [Int.toNat_natCast] at e1 e3;refine ax ?_;by_cases h2:nth 0 l len=0
  ·rw [e4,h2,mZ] at hk;have ih:=B8 hg ht hc hb k h0 hh len aa hk;simp (disch:=try exact ac)[bw,e1,e2,e3,h2,hh];exact ih
  ·rw [e4,tA h2] at hk;have e5:(l.take len++[nth 0 l len]).length=len+1:=by simp;omega
   rw [e5] at hk;simp (disch:=try exact ac)[bw,e1,e2,e3,h2];exact hk
theorem pu {h:Hp} (hu:(h.all fun x=>dO h.length x.2)=true) {s e len cap tot:Nat} {l:List Nat} {ex fr:Bool} (hg:h[s]? = some (e,.data 1 (l.map u6) ex fr)) (ht:tot=l.length) (hc:cap<=tot) (hb:cap<1000000000000) (hl:len<=cap) :
  CI Y F.ay [.ref s e 0 len cap tot] h (.ref s e 0 (fD (l.take len)).length cap tot) h:=by
 refine ma ?_;simp (disch:=try exact ac)[ay];refine lo (B8 hg ht hc hb _ _ rfl len hl ?_);simp (disch:=try exact ac)[];have hs:=bB hg;refine ⟨af,by simpa using hu,.inl ⟨rfl,?_⟩⟩;simp [under,hs]
theorem KH {h:Hp} {l0:List Nat} (k:KL) (h0:Hp) (hh:h0.length=h.length):∀ l:List Nat,l.length<1000000000000->k (.exit 0) [lst u6 (fD l)] h->lp (bw (CX Y) h.length) [] h0 [lst u6 l] h k:=by
 intro l hb hk
 induction hn:l.length generalizing l with
 | zero=>
  have:l=[]:=Zi hn;subst this;refine ax ?_;simp (disch:=try exact ac)[bw];exact hk
 | succ n ih=>
  obtain ⟨l,x,rfl⟩:∃ l' x,l=l'++[x]:=⟨l.dropLast,l.getLast (by intro e;simp [e] at hn),(List.dropLast_concat_getLast _).symm⟩;have hl:l.length=n:=by simpa using hn
  have e1:=fun h:Hp=>dP u6 (l++[x]) h (k:=.i64) (i:=(l.length:Int)) aa aR
  have e2:=fun h:Hp=>zS (l++[x]) h (j:=l.length) af
  have e3:=fun h:Hp=>Ut u6 (l++[x]) h (i:=(l.length:Int)) aa aR af
  have e4:nth 0 (l++[x]) l.length=x:=af;simp only [Int.toNat_natCast,Wq] at e1 e3;rw [e4] at e2;have e5:((l++[x]).length:Int)=(l.length:Int)+1:=af;have e6:bq (lst u6 (l++[x]))=some (I ((l.length:Int)+1)):=by rw [<- e5];rfl
  have hb2:l.length<1000000000000:=by simp at hb;omega
  refine ax ?_;by_cases hx:x=0
  ·subst hx;rw [mZ] at hk;simp (disch:=try exact ac)[bw,e1,e2,e3,e6,hh];exact ih l hb2 hk hl
  ·rw [tA hx] at hk;simp (disch:=try exact ac)[bw,e1,e2,e3,e6,hx];exact hk
theorem PQ {h:Hp} (hu:(h.all fun x=>dO h.length x.2)=true) {l:List Nat} (hb:l.length<1000000000000):CI Y F.ay [lst u6 l] h (lst u6 (fD l)) h:=by
 refine ma ?_;simp (disch:=try exact ac)[ay];refine lo (KH (l0:=l) _ _ rfl l hb ?_);simp (disch:=try exact ac)[];refine ⟨af,by simpa using hu,.inl ⟨rfl,rfl⟩⟩
end Go.Vm
namespace Go.Vm
open Go Go.Am Go.Big
def RdP (h:Hp) (a:V) (l:List Nat):Prop:=bq a=some (I l.length)∧∀ (t:Hp) (i:Nat),i<l.length->∃ p,ixV (h++t) 1 a (I i)=some p∧ld1 (h++t) p=some (U (nth 0 l i:Nat))
theorem Kz (h:Hp) (l:List Nat):RdP h (lst u6 l) l:=by
 refine ⟨rfl,fun t i hi=>⟨.dptr (l.map u6) i,?_,zS l _ hi⟩⟩;have:=dP u6 l (h++t) (k:=.i64) (i:=(i:Int)) aa aa;trivial
theorem zH {l:List Nat} {n i:Nat} (h:i<n):nth 0 (l.take n) i=nth 0 l i:=by
 grind [nth]
theorem yL {h:Hp} {s e len cap tot:Nat} {l:List Nat} {ex fr:Bool} (hg:h[s]? = some (e,.data 1 (l.map u6) ex fr)) (ht:tot=l.length) (hl:len<=tot):RdP h (.ref s e 0 len cap tot) (l.take len):=by
 have e1:(l.take len).length=len:=by simp;omega
 refine ⟨by simp_all,fun t i hi=>⟨.ptr s e i tot,?_,?_⟩⟩
 ·have hs:=bB hg;have:=xL (h:=h++t) (by rw [List.getElem?_append_left hs];exact hg) ht (len:=len) (cap:=cap) (i:=(i:Int)) aa aa .i64;trivial
 ·have hs:=bB hg;rw [zH aa];exact Ek (h:=h++t) (by rw [List.getElem?_append_left hs];exact hg) ht aa
def pH (h:Hp) (o:List Nat):Hp:=h++[(1,.data 1 (o.map u6) true false),(0,.none)]
theorem wq (h:Hp) (o:List Nat):(pH h o)[h.length]? = some (1,.data 1 (o.map u6) true false):=by simp [pH]
theorem Nz (h:Hp) (o o':List Nat):(pH h o).set h.length (1,.data 1 (o'.map u6) true false)=pH h o':=by simp [pH]
@[simp] theorem NA (h:Hp) (o:List Nat):(pH h o).length=h.length+2:=by simp [pH]
theorem Pw {s b c:Nat} (hbc:b<=c) (h:Nat.blt s b=true):Nat.blt s c=true:=by
 grind [Nat.blt_eq]
mutual
theorem E7 {b c:Nat} (hbc:b<=c):∀ v:V,under b v=true->under c v=true
 | .ref s ..,h=>Pw hbc h
 | .ptr s ..,h=>Pw hbc h
 | .agg l,h=>nL hbc l h
 | .tup l,h=>nL hbc l h
 | .fn _ x y,h=>by
  simp only [under,Z8] at h ⊢;exact ⟨nL hbc x h.1,nL hbc y h.2⟩
 | .ifc _ x,h=>E7 hbc x h
 | .new ..,h=>by cases h
 | .junk,_=>rfl
 | .d _,_=>rfl
 | .dptr ..,_=>rfl
 | .cut _,h=>by cases h
theorem nL {b c:Nat} (hbc:b<=c):∀ l:List V,me b l=true->me c l=true
 | [],_=>rfl
 | x::l,h=>by
  simp only [me,Z8] at h ⊢;exact ⟨E7 hbc x h.1,nL hbc l h.2⟩
end
theorem B6 {b c:Nat} (hbc:b<=c) {x:Bk} (h:dO b x=true):dO c x=true:=by
 cases x with
 | vars l=>exact nL hbc l h
 | none=>rfl
 | data n cs ex fr=>rfl
theorem IT {b c:Nat} (hbc:b<=c) {h:Hp} (hu:(h.all fun x=>dO b x.2)=true):(h.all fun x=>dO c x.2)=true:=by
 grind [B6]
section
variable {h:Hp} {t0 t1:V} {da db:List Nat}
theorem KM (hb:RdP h t1 db) (hsb:aD Z db) {x i N:Nat} (hx:x<Z) (hN:i+db.length<N) (hNb:N<1000000000000) (k:KL) (h0:Hp) (hh:h0.length=h.length+2) (T:Nat) (o0:List Nat) :
  ∀ (r c j:Nat) (o:List Nat),j+r=db.length->c<Z->o.length=N->aD Z o->val Z o+Z ^ (i+j)*(c+x*val Z (db.drop j))=T->(∀ m,i+db.length<=m->nth 0 o m=nth 0 o0 m) ->
  (∀ c' o',c'<Z->o'.length=N->aD Z o'->val Z o'+Z ^ (i+db.length)*c'=T->(∀ m,i+db.length<=m->nth 0 o' m=nth 0 o0 m)->k (.exit 2) [U (c':Nat)] (pH h o')) ->
  lp (fq (CX Y) h.length (.ref h.length 1 0 N N N) (I i) (U x) t1 (I db.length)) [] h0 [U c,I j] (pH h o) k:=by
 intro r
 induction r with
 | zero=>
  intro c j o hj hc ho hs hv hf hk;have hjl:j=db.length:=aa;subst hjl;have hd:db.drop db.length=[]:=List.drop_length;rw [hd] at hv;simp only [val,Nat.mul_zero,Nat.add_zero] at hv;refine ax ?_;simp (disch:=try exact ac)[fq]
  grind
 | succ r ih=>
  intro c j o hj hc ho hs hv hf hk;have hjl:j<db.length:=aa;obtain ⟨m,hm⟩:∃ m,m=i+j:=⟨_,rfl⟩;rw [<- hm] at hv;have hij:m<o.length:=aa;obtain ⟨y,hy2⟩:∃ y,db.getD j 0=y:=⟨_,rfl⟩;have hy:=hsb.getD bg j;have hw:=hs.getD bg m;have hst:=NO (B:=Z) (o:=o) (j:=m) (c:=c) (a:=x) (y:=db.getD j 0) (v:=val Z (db.drop (j+1))) hij;rw [<- mM,hv] at hst;rw [hy2] at hy hst
  obtain ⟨p,hp⟩:∃ p,p=x*y:=⟨_,rfl⟩;have hxy:p<=999999999*999999999:=by rw [hp];exact Zs (by grind [Z]) (by grind [Z])
  have hpi:(x:Int)*(y:Int)=(p:Int):=by rw [hp];simp
  rw [<- hp] at hst;have e1:((i:Int)+(j:Int))=(m:Int):=aa;have hZ:Z=1000000000:=rfl;obtain ⟨w,hwd⟩:∃ w,o.getD m 0=w:=⟨_,rfl⟩;rw [hwd] at hst hw;obtain ⟨pb,r1,r2⟩:=hb.2 [(1,.data 1 (o.map u6) true false),(0,.none)] j hjl;rw [show nth 0 db j=y from hy2] at r2;have r3:=xL (wq h o) ho.symm (len:=N) (cap:=N) (i:=(m:Int)) aa aa .i64;have r4:=Ek (wq h o) ho.symm hij
  have r5:=KR (wq h o) ho.symm hij ((c+w+p) % Z);rw [show nth 0 o m=w from hwd] at r4;rw [Int.toNat_natCast] at r3;rw [Nz] at r5
  change ixV (pH h o) 1 t1 (I j)=some pb at r1
  change ld1 (pH h o) pb=_ at r2
  have ih2:=ih ((c+w+p) / Z) (j+1) (o.set m ((c+w+p) % Z)) aa (by grind) (by grind) (hs.set (Y3 _ bg)) (by rw [show i+(j+1)=m+1 by omega];omega)
   (fun n hn=>by rw [<- hf n hn];simp [nth,List.getElem?_set_ne (show m≠n by omega)]) hk
  clear hst hk ih hv;obtain ⟨t,ht⟩:∃ t,c+w+p=t:=⟨_,rfl⟩;have ht2:t<1000000000000000000+2000000000:=by simp only [hZ] at *;omega
  rw [ht] at ih2 r5;obtain ⟨tm,htm⟩:∃ tm,t % Z=tm:=⟨_,rfl⟩;obtain ⟨td,htd⟩:∃ td,t / Z=td:=⟨_,rfl⟩;rw [htm] at ih2 r5;rw [htd] at ih2;have e2:(c:Int)+((w:Int)+(p:Int))=(t:Int):=aa;have e3:((t:Int) % 1000000000)=(tm:Int):=by simp only [hZ] at htm;omega
  have e4:((t:Int) / 1000000000)=(td:Int):=by simp only [hZ] at htd;omega
  refine ax ?_;simp (disch:=try exact ac)[fq,r1,r2,r3,r4,e1,hpi,e2,Zt,Zy,e3,e4,r5];trivial
theorem Hu (ha:RdP h t0 da) (hsa:aD Z da) (hb:RdP h t1 db) (hsb:aD Z db) (hla:da.length<100000000) (hlb:db.length<100000000) (k:KL) (h0:Hp) (hh:h0.length=h.length+2) {N:Nat} (hN:N=da.length+db.length) :
  ∀ (r i:Nat) (o:List Nat),i+r=da.length->o.length=N->aD Z o->val Z o=val Z (da.take i)*val Z db->(∀ m,i+db.length<=m->nth 0 o m=0) ->
  (∀ o',o'.length=N->aD Z o'->val Z o'=val Z da*val Z db->k (.exit 0) [] (pH h o')) ->
  lp (ft (CX Y) h.length t1 (.ref h.length 1 0 N N N) t0 (I da.length)) [] h0 [I i] (pH h o) k:=by
 intro r
 induction r with
 | zero=>
  intro i o hi ho hs hv hf hk;refine ax ?_;have g:¬ i<da.length:=aa;simp (disch:=try exact ac)[ft,g];rw [show i=da.length by omega,Xl] at hv
  grind
 | succ r ih=>
  intro i o hi ho hs hv hf hk;have hil:i<da.length:=aa;obtain ⟨pa,r1,r2⟩:=ha.2 [(1,.data 1 (o.map u6) true false),(0,.none)] i hil;obtain ⟨x,hx⟩:∃ x,nth 0 da i=x:=⟨_,rfl⟩;have hxs:x<Z:=by rw [<- hx];exact hsa.getD bg i
  rw [hx] at r2
  change ixV (pH h o) 1 t0 (I i)=some pa at r1
  change ld1 (pH h o) pa=_ at r2
  have hl:=hb.1;refine ax ?_;simp (disch:=try exact ac)[ft,r1,r2,hl];refine lo (KM hb hsb hxs aa aa _ _ (NA h o) (val Z o+Z ^ i*(x*val Z db)) o db.length 0 0 o aa bg ho hs af (fun _ _=>rfl) fun c' o' hc' ho' hs' hv' hf'=>?_);simp only [iB];obtain ⟨m,hm⟩:∃ m,m=i+db.length:=⟨_,rfl⟩
  have hml:m<o'.length:=aa;have r3:=xL (wq h o') ho'.symm (len:=N) (cap:=N) (i:=(m:Int)) aa aa .i64;have r5:=KR (wq h o') ho'.symm hml c';rw [Int.toNat_natCast] at r3;rw [Nz] at r5;have e1:((i:Int)+(db.length:Int))=(m:Int):=aa;have e0:nth 0 o' m=0:=by rw [hf' m aa,hf m aa]
  have hvs:=sj (B:=Z) o' m c' hml;rw [show o'.getD m 0=0 from e0] at hvs
  have ih2:=ih (i+1) (o'.set m c') aa (by grind) (hs'.set hc') (by
   rw [tn da hil,show da.getD i 0=x from hx,Nat.add_mul,<- hv]
   grind) (fun n hn=>by
   simp only [nth,Zz,List.getElem?_set_ne (show m≠n by omega)];have:=hf' n aa;rw [hf n aa] at this;exact this) hk
  clear hvs hv' ih hk;simp (disch:=try exact ac)[hl,e1,r3,r5];trivial
theorem vS (hu:(h.all fun x=>dO h.length x.2)=true) (ha:RdP h t0 da) (hsa:aD Z da) (hb:RdP h t1 db) (hsb:aD Z db) (hla:da.length<100000000) (hlb:db.length<100000000) {N:Nat} (hN:N=da.length+db.length) :
  CI Y F.bb [t0,t1] h (.new 1 ((aY N (val Z da*val Z db)).map u6) true (dig Z (val Z da*val Z db)).length N) h:=by
 refine qu ?_;have l0:=ha.1;have l1:=hb.1;have e1:((da.length:Int)+(db.length:Int))=(N:Int):=aa;simp (disch:=try exact ac)[bb,l0,l1,e1]
 have e2:h++[(1,Bk.data 1 (List.replicate N (D.int IntKind.u64 0)) true false),(0,.none)]=pH h (List.replicate N 0):=by
  simp [pH,u6]
 have e3:(h++[(0,Bk.none),(0,Bk.none)]).set h.length (1,Bk.data 1 (List.replicate N (D.int IntKind.u64 0)) true false)=pH h (List.replicate N 0):=by
  simp [pH,u6]
 try simp only [e3]
 try rw [e2]
 refine lo (Hu ha hsa hb hsb hla hlb _ _ (NA ..) hN da.length 0 (List.replicate N 0) aa af (fun x hx=>by grind [bg]) (by simp [kU,val]) (fun m _=>by
  grind [nth]) fun o ho hs hv=>?_)
 simp only [iB];have ht:fD (o.take N)=dig Z (val Z da*val Z db):=by rw [Zw aa,<- hv,nI au hs]
 have hu2:((pH h o).all fun x=>dO (pH h o).length x.2)=true:=by
  have hm:(h.all fun x=>dO (pH h o).length x.2)=true:=IT af hu;rw [pH,Xr,<- pH,hm];rfl
 have tr:=pu hu2 (wq h o) ho.symm (len:=N) (cap:=N) (Z7 _) aa (Z7 _);rw [ht] at tr;refine lV tr ?_ af;have hol:o=aY N (val Z da*val Z db):=by rw [<- hv,<- ho];exact yB o hs
 rw [<- hol];refine ⟨by simp [pH],aa,.inr (.inr (.inl ⟨h.length,1,_,N,1,o.map u6,true,by grind,Z7 _,by simp [aO,pH],rfl⟩))⟩
def trimS (n:Nat):List Nat:=if n=0 then [] else [n]
theorem Mi (n:Nat):fD [n]=trimS n:=by rfl
theorem KG (n:Nat):val Z (trimS n)=n:=by
 grind [trimS,val]
theorem E9 {n:Nat} (h:n<Z):aD Z (trimS n):=by
 unfold trimS;split
 ·exact fun x hx=>by cases hx
 ·exact fun x hx=>by grind
theorem zr (hu:(h.all fun x=>dO h.length x.2)=true) {f:Nat} (hf:f<Z) (hf0:0<f) (ha:RdP (h++[(0,.none),(0,.none)]) t0 da) (hsa:aD Z da) (hla:da.length<100000000) {N:Nat} (hN:N=da.length+1) :
  CI Y F.bG [t0,U f] h (.new 1 ((aY N (val Z da*f)).map u6) true (dig Z (val Z da*f)).length N) h:=by
 refine pN ?_
 have hli:∀ h:Hp,eY 1 [D.int .u64 0] [(0,U f)] h=some ([u6 f],h):=fun h=>by
  rfl
 have hu2:((h++[(0,Bk.none),(0,.none)]).all fun x=>dO (h++[(0,Bk.none),(0,.none)]).length x.2)=true:=by
  rw [Xr,IT af hu];rfl
 simp (disch:=try exact ac)[bG,hli];have t1:=PQ hu2 (l:=[f]) af;rw [Mi] at t1;refine lV (args:=[lst u6 [f]]) t1 ?_ (by simp [lst]) (by simp [lst]);have hfl:(trimS f).length=1:=by simp [trimS,show f≠0 by omega]
 have t2:=vS hu2 ha hsa (Kz _ (trimS f)) (E9 hf) hla aa (N:=N) aa;rw [KG] at t2;simp (disch:=try exact ac)[];refine gL (e:=0) (b:=.none) t2 af ?_;refine ⟨af,aa,.inr (.inr (.inl ⟨h.length+1,1,_,N,1,(aY N (val Z da*f)).map u6,true,by rfl,aa,by simp [aO],rfl⟩))⟩
end
end Go.Vm
namespace Go.Vm
open Go Go.Am Go.Big
def sP (h:Hp) (s e:Nat) (ex:Bool) (l:List Nat):Hp:=h.set s (e,.data 1 (l.map u6) ex false)
theorem og {h:Hp} {s e:Nat} {ex:Bool} {l:List Nat} (hs:s<h.length):(sP h s e ex l)[s]? = some (e,.data 1 (l.map u6) ex false):=by simp [sP,hs]
theorem MH {h:Hp} {s e:Nat} {ex:Bool} {l l':List Nat}:(sP h s e ex l).set s (e,.data 1 (l'.map u6) ex false)=sP h s e ex l':=by simp [sP]
@[simp] theorem WW {h:Hp} {s e:Nat} {ex:Bool} {l:List Nat}:(sP h s e ex l).length=h.length:=by simp [sP]
theorem wd {b:Nat} {h:Hp} {s e:Nat} {ex:Bool} {l:List Nat} (hu:(h.all fun x=>dO b x.2)=true):((sP h s e ex l).all fun x=>dO b x.2)=true:=by
 rw [Zv] at hu ⊢;intro x hx;rcases Yv hx with h1 | h1
 ·grind
 ·rw [h1];rfl
def RdS (P:Hp->Prop) (a:V) (l:List Nat):Prop:=bq a=some (I l.length)∧∀ (t:Hp) (i:Nat),P t->i<l.length->∃ p,ixV t 1 a (I i)=some p∧ld1 t p=some (U (nth 0 l i:Nat))
def fU (g at_:Nat) (db:List Nat):Nat->Nat->Nat->Nat->List Nat->Nat × List Nat
 | 0,_,_,w,l=>(w,l)
 | r+1,k,c,w,l=>
  if nth 0 l (at_+k)<(c+g*nth 0 db k) % Z+w then fU g at_ db r (k+1) ((c+g*nth 0 db k) / Z) 1 (l.set (at_+k) (nth 0 l (at_+k)+Z-((c+g*nth 0 db k) % Z+w)))
  else fU g at_ db r (k+1) ((c+g*nth 0 db k) / Z) 0 (l.set (at_+k) (nth 0 l (at_+k)-((c+g*nth 0 db k) % Z+w)))
section
variable {h:Hp} {s e tot at_ g:Nat} {ex:Bool} {t1:V} {db:List Nat}
theorem KN (hs:s<h.length) (hb:RdS (fun t=>∃ l,t=sP h s e ex l) t1 db) (hsb:aD Z db) (hg:g<Z) (hat:at_+db.length<tot) (ht:tot<1000000000000) {len cap:Nat} (hlen:tot=len) (k:KL) (h0:Hp) (hh:h0.length=h.length) :
  ∀ (r j c w:Nat) (l:List Nat),j+r=db.length+1->c<Z->w<=1->l.length=tot->aD Z l ->
  k (.exit 0) [I ((fU g at_ db r j c w l).1:Nat)] (sP h s e ex (fU g at_ db r j c w l).2) ->
  lp (d6 (CX Y) h.length (.ref s e 0 len cap tot) t1 (U g) (I at_)) [] h0 [U c,I w,I j] (sP h s e ex l) k:=by
 intro r
 induction r with
 | zero=>
  intro j c w l hj hc hw hl hsl hk;refine ax ?_;have g1:¬ j<=db.length:=aa;have hl1:=hb.1;simp (disch:=try exact ac)[d6,hl1,g1];exact hk
 | succ r ih=>
  intro j c w l hj hc hw hl hsl hk;have hjl:j<=db.length:=aa;obtain ⟨m,hm⟩:∃ m,m=at_+j:=⟨_,rfl⟩;have hml:m<l.length:=aa;obtain ⟨y,hy⟩:∃ y,nth 0 db j=y:=⟨_,rfl⟩;have hys:y<Z:=by rw [<- hy];exact hsb.getD bg j
  obtain ⟨x,hx⟩:∃ x,nth 0 l m=x:=⟨_,rfl⟩;have hxs:x<Z:=by rw [<- hx];exact hsl.getD bg m
  obtain ⟨p,hp⟩:∃ p,p=g*y:=⟨_,rfl⟩;have hxy:p<=999999999*999999999:=by rw [hp];exact Zs (by grind [Z]) (by grind [Z])
  have hpi:(g:Int)*(y:Int)=(p:Int):=by rw [hp];simp
  have e1:((at_:Int)+(j:Int))=(m:Int):=aa;have hZ:Z=1000000000:=rfl;have hl1:=hb.1;have r3:=xL (og (e:=e) (ex:=ex) (l:=l) hs) hl.symm (len:=len) (cap:=cap) (i:=(m:Int)) aa aa .i64;have r4:=Ek (og (e:=e) (ex:=ex) (l:=l) hs) hl.symm hml;have r5:=KR (og (e:=e) (ex:=ex) (l:=l) hs) hl.symm hml;simp only [MH] at r5;rw [hx] at r4;rw [Int.toNat_natCast] at r3
  rw [fU,hy,<- hp,<- hm,hx] at hk;have hsm:(∀ v,v<Z->aD Z (l.set m v)):=fun v hv=>hsl.set hv
  obtain ⟨t,ht1⟩:∃ t,c+p=t:=⟨_,rfl⟩;rw [ht1] at hk;obtain ⟨tm,htm⟩:∃ tm,t % Z=tm:=⟨_,rfl⟩;obtain ⟨td,htd⟩:∃ td,t / Z=td:=⟨_,rfl⟩;rw [htm,htd] at hk;have ht2:t<1000000000000000000:=by simp only [hZ] at *;omega
  have htdZ:td<Z:=by simp only [hZ] at *;omega
  have htmZ:tm<Z:=by simp only [hZ] at *;omega
  have e3:((t:Int) % 1000000000)=(tm:Int):=by simp only [hZ] at htm;omega
  have e4:((t:Int) / 1000000000)=(td:Int):=by simp only [hZ] at htd;omega
  have main:∀ (v:Nat) (w':Nat),v<Z->w'<=1->k (.exit 0) [I ((fU g at_ db r (j+1) td w' (l.set m v)).1:Nat)] (sP h s e ex (fU g at_ db r (j+1) td w' (l.set m v)).2) ->
    lp (d6 (CX Y) h.length (.ref s e 0 len cap tot) t1 (U g) (I at_)) [] h0 [U td,I w',I (j+1:Nat)] (sP h s e ex (l.set m v)) k:=fun v w' hv hw' hk'=>
   ih (j+1) td w' (l.set m v) aa htdZ hw' (by grind) (hsm v hv) hk'
  clear ih;have e2:(c:Int)+(p:Int)=(t:Int):=aa;refine ax ?_;simp (disch:=try exact ac)[d6,hl1,hjl];refine fk (l:=[U t]) (h:=sP h s e ex l) (fun q=>?_) ?_
  ·by_cases g2:j<db.length
   ·obtain ⟨pb,q1,q2⟩:=hb.2 (sP h s e ex l) j ⟨l,rfl⟩ g2;rw [hy] at q2;simp (disch:=try exact ac)[g2,q1,q2,hpi,e2]
   ·have hy0:nth 0 db j=0:=by simp [nth,List.getElem?_eq_none (show db.length<=j by omega)]
    rw [hy] at hy0;subst hy0;simp only [Nat.mul_zero] at hp;subst hp;obtain rfl:c=t:=aa;simp (disch:=try exact ac)[g2]
  ·simp (disch:=try exact ac)[e1,r3,r4,Zt,Zy,e3,e4];by_cases hxt:x<tm+w
   ·rw [if_pos hxt] at hk;obtain ⟨v,hv⟩:∃ v,x+Z-(tm+w)=v:=⟨_,rfl⟩;rw [hv] at hk;have hvZ:v<Z:=aa;have e5:(x:Int)-tm-w<0:=aa;have e6:(x:Int)-tm-w+1000000000=v:=by simp only [hZ] at hv;omega
    have r6:=r5 v;refine fk (l:=[I v,I (1:Nat)]) (h:=sP h s e ex l) (fun q=>?_) ?_
    ·simp (disch:=try exact ac)[e5,e6]
    ·simp (disch:=try exact ac)[e1,r3,r6];simpa using main v 1 hvZ (Z7 _) hk
   ·rw [if_neg hxt] at hk;obtain ⟨v,hv⟩:∃ v,x-(tm+w)=v:=⟨_,rfl⟩;rw [hv] at hk;have hvZ:v<Z:=aa;have e5:¬ ((x:Int)-tm-w<0):=aa;have e6:(x:Int)-tm-w=v:=aa;have r6:=r5 v;refine fk (l:=[I v,I (0:Nat)]) (h:=sP h s e ex l) (fun q=>?_) ?_
    ·rw [e6] at e5 ⊢;simp (disch:=try exact ac)[e5]
    ·simp (disch:=try exact ac)[e1,r3,r6];simpa using main v 0 hvZ (Ys _) hk
theorem Fi (hu:(h.all fun x=>dO h.length x.2)=true) (hs:s<h.length) (hb:RdS (fun t=>∃ l,t=sP h s e ex l) t1 db) (hsb:aD Z db) (hg:g<Z) (hat:at_+db.length<tot) (ht:tot<1000000000000) {l:List Nat} (hl:l.length=tot) (hsl:aD Z l) :
  CI Y F.cF [.ref s e 0 tot tot tot,t1,U g,I at_] (sP h s e ex l) (B (decide (0<(fU g at_ db (db.length+1) 0 0 0 l).1))) (sP h s e ex (fU g at_ db (db.length+1) 0 0 0 l).2):=by
 refine qU ?_;simp (disch:=try exact ac)[cF];refine lo (KN hs hb hsb hg hat ht rfl _ _ af (db.length+1) 0 0 0 l aa bg (Ys _) hl hsl ?_);simp (disch:=try exact ac)[];refine ⟨(Zw af).symm,?_,.inl ⟨rfl,rfl⟩⟩;exact wd hu
def nu (at_:Nat) (db:List Nat):Nat->Nat->Nat->List Nat->List Nat
 | 0,_,_,l=>l
 | r+1,k,c,l=>nu at_ db r (k+1) ((c+nth 0 l (at_+k)+nth 0 db k) / Z) (l.set (at_+k) ((c+nth 0 l (at_+k)+nth 0 db k) % Z))
theorem L8 (hs:s<h.length) (hb:RdS (fun t=>∃ l,t=sP h s e ex l) t1 db) (hsb:aD Z db) (hat:at_+db.length<tot) (ht:tot<1000000000000) {len cap:Nat} (hlen:tot=len) (k:KL) (h0:Hp) (hh:h0.length=h.length) :
  ∀ (r j c:Nat) (l:List Nat),j+r=db.length+1->c<Z->l.length=tot->aD Z l ->
  k (.exit 0) [] (sP h s e ex (nu at_ db r j c l)) ->
  lp (fP (CX Y) h.length (.ref s e 0 len cap tot) t1 (I at_)) [] h0 [U c,I j] (sP h s e ex l) k:=by
 intro r
 induction r with
 | zero=>
  intro j c l hj hc hl hsl hk;refine ax ?_;have g1:¬ j<=db.length:=aa;have hl1:=hb.1;simp (disch:=try exact ac)[fP,hl1,g1];exact hk
 | succ r ih=>
  intro j c l hj hc hl hsl hk;have hjl:j<=db.length:=aa;obtain ⟨m,hm⟩:∃ m,m=at_+j:=⟨_,rfl⟩;have hml:m<l.length:=aa;obtain ⟨y,hy⟩:∃ y,nth 0 db j=y:=⟨_,rfl⟩;have hys:y<Z:=by rw [<- hy];exact hsb.getD bg j
  obtain ⟨x,hx⟩:∃ x,nth 0 l m=x:=⟨_,rfl⟩;have hxs:x<Z:=by rw [<- hx];exact hsl.getD bg m
  have e1:((at_:Int)+(j:Int))=(m:Int):=aa;have hZ:Z=1000000000:=rfl;have hl1:=hb.1;have r3:=xL (og (e:=e) (ex:=ex) (l:=l) hs) hl.symm (len:=len) (cap:=cap) (i:=(m:Int)) aa aa .i64;have r4:=Ek (og (e:=e) (ex:=ex) (l:=l) hs) hl.symm hml;have r5:=KR (og (e:=e) (ex:=ex) (l:=l) hs) hl.symm hml;simp only [MH] at r5;rw [hx] at r4;rw [Int.toNat_natCast] at r3
  rw [nu,hy,<- hm,hx] at hk;obtain ⟨t,ht1⟩:∃ t,c+x+y=t:=⟨_,rfl⟩;rw [ht1] at hk;obtain ⟨tm,htm⟩:∃ tm,t % Z=tm:=⟨_,rfl⟩;obtain ⟨td,htd⟩:∃ td,t / Z=td:=⟨_,rfl⟩;rw [htm,htd] at hk;have ht2:t<3000000000:=by simp only [hZ] at *;omega
  have htdZ:td<Z:=by simp only [hZ] at *;omega
  have htmZ:tm<Z:=by simp only [hZ] at *;omega
  have e3:((t:Int) % 1000000000)=(tm:Int):=by simp only [hZ] at htm;omega
  have e4:((t:Int) / 1000000000)=(td:Int):=by simp only [hZ] at htd;omega
  have ih2:=ih (j+1) td (l.set m tm) aa htdZ (by grind) (hsl.set htmZ) hk;have r6:=r5 tm;clear ih;refine ax ?_;simp (disch:=try exact ac)[fP,hl1,hjl,e1,r3,r4];refine fk (l:=[U t]) (h:=sP h s e ex l) (fun q=>?_) ?_
  ·by_cases g2:j<db.length
   ·obtain ⟨pb,q1,q2⟩:=hb.2 (sP h s e ex l) j ⟨l,rfl⟩ g2;rw [hy] at q2;have e2:(c:Int)+(x:Int)+(y:Int)=(t:Int):=aa;simp (disch:=try exact ac)[g2,q1,q2,e2]
   ·have hy0:nth 0 db j=0:=by simp [nth,List.getElem?_eq_none (show db.length<=j by omega)]
    rw [hy] at hy0;subst hy0;have e2:(c:Int)+(x:Int)=(t:Int):=aa;simp (disch:=try exact ac)[g2,e2]
  ·simp (disch:=try exact ac)[e1,r3,r4,Zt,Zy,e3,e4,r6];trivial
theorem Hf (hu:(h.all fun x=>dO h.length x.2)=true) (hs:s<h.length) (hb:RdS (fun t=>∃ l,t=sP h s e ex l) t1 db) (hsb:aD Z db) (hat:at_+db.length<tot) (ht:tot<1000000000000) {l:List Nat} (hl:l.length=tot) (hsl:aD Z l) :
  CI Y F.bO [.ref s e 0 tot tot tot,t1,I at_] (sP h s e ex l) (.tup []) (sP h s e ex (nu at_ db (db.length+1) 0 0 l)):=by
 refine qX ?_;simp (disch:=try exact ac)[bO];refine lo (L8 hs hb hsb hat ht rfl _ _ af (db.length+1) 0 0 l aa bg hl hsl ?_);simp (disch:=try exact ac)[];refine ⟨(Zw af).symm,?_,.inl ⟨rfl,rfl⟩⟩;exact wd hu
end
end Go.Vm
namespace Go.Big
section
variable {B:Nat}
theorem jm (l:List Nat) (i:Nat) (h:i<=l.length):val B l=val B (l.take i)+B ^ i*val B (l.drop i):=by
 have:=val_append (B:=B) (l.take i) (l.drop i);rw [Ye,Zn,Y4 h] at this;exact this
theorem PP (l:List Nat) (z:Nat):val B (l++List.replicate z 0)=val B l:=by rw [val_append,kU];simp
theorem Fb (hB:0<B) {l:List Nat} {n:Nat} (h:val B l<B ^ n):val B (l.drop n)=0:=by
 rcases Zl n l.length with h1 | h1
 ·have:=jm (B:=B) l n aa;rcases Zk (val B (l.drop n)) with h2 | h2
  ·exact h2
  ·have:=Z3 (B ^ n) h2;omega
 ·rw [Zd h1];rfl
variable {L lD lB x0 x1 x2 y0 y1 D v g r hi:Nat}
structure Gs (B L lD lB x0 x1 x2 y0 y1 D v hi:Nat):Prop where
 B0:0<B
 D_eq:D=lD+L*(x0+B*hi)
 v_eq:v=lB+L*(y0+B*y1)
 lDL:lD<L
 lBL:lB<L
 hx0:x0<B
 hy0:y0<B
 hy1:0<y1
 hD:D<B*v
theorem Gs.vpos (G:Gs B L lD lB x0 x1 x2 y0 y1 D v hi):L*B<=v:=by
 rw [G.v_eq]
 have h1:L*B<=L*(y0+B*y1):=Z3 L (by
  have:=Z3 B G.hy1;omega)
 omega
theorem Gs.pos (G:Gs B L lD lB x0 x1 x2 y0 y1 D v hi):0<v:=by
 have:=G.vpos;have h1:=G.lDL;have h2:0<L*B:=Yz aa G.B0;omega
theorem Gs.first (G:Gs B L lD lB x0 x1 x2 y0 y1 D v hi):D / v<=hi / y1:=by
 have hvp:=G.pos;rw [Xe G.hy1];have h1:D / v*v<=D:=Nat.div_mul_le_self D v;generalize D / v=q at *
 have h2:q*(L*(B*y1))<=q*v:=Z3 q (by
  rw [G.v_eq];have:=Z3 L (Nat.le_add_left (B*y1) y0);omega)
 have h3:D<L*B*(hi+1):=by
  rw [G.D_eq];have:=G.lDL;have h4:=Z3 L (show x0+1+B*hi<=B*(hi+1) by rw [Zp];have:=G.hx0;omega);rw [<- Nat.mul_assoc] at h4
  have h5:L*(x0+1+B*hi)=L+L*(x0+B*hi):=by
   rw [show x0+1+B*hi=1+(x0+B*hi) by omega,Zp];simp
  omega
 have h6:q*(L*(B*y1))=L*B*(q*y1):=by
  rw [<- Nat.mul_assoc L B y1,Za]
 have h7:L*B*(q*y1)<L*B*(hi+1):=aa;have:=Xu h7;omega
theorem Gs.far (G:Gs B L lD lB x0 x1 x2 y0 y1 D v hi) (h:B<=g):D / v<g:=by
 have:=(Xw G.pos).2 G.hD;omega
theorem Gs.over (G:Gs B L lD lB x0 x1 x2 y0 y1 D v hi) (he:g*y1+r=hi) (h:r*B+x0<g*y0):D / v<g:=by
 rw [Xw G.pos]
 have h1:L*(x0+1+B*hi)<=g*v:=by
  rw [G.v_eq];have h2:g*(L*(y0+B*y1))<=g*(lB+L*(y0+B*y1)):=Z3 g aa
  have h3:g*(L*(y0+B*y1))=L*(g*y0+B*(g*y1)):=by
   rw [Za g L,Zp,Za g B]
  have h4:L*(x0+1+B*hi)<=L*(g*y0+B*(g*y1)):=Z3 L (by
   rw [<- he,Zp,Zx B r];omega)
  omega
 have h5:L*(x0+1+B*hi)=L+L*(x0+B*hi):=by
  rw [show x0+1+B*hi=1+(x0+B*hi) by omega,Zp];simp
 have:=G.lDL;rw [G.D_eq];omega
theorem Gs.near (G:Gs B L lD lB x0 x1 x2 y0 y1 D v hi) (he:g*y1+r=hi) (hg:g<B) (h:¬ (r<B∧r*B+x0<g*y0)):g*v<D+v:=by
 have h0:g*(y0+B*y1)<=x0+B*hi:=by
  rw [Zp,Za g B,<- he,Zp];by_cases hr:r<B
  ·have:¬ r*B+x0<g*y0:=fun h'=>h ⟨hr,h'⟩
   rw [Zx r B] at this;omega
  ·have h1:g*y0<=B*B:=Zs aa (by have:=G.hy0;omega);have h2:=Z3 B (show B<=r by omega);omega
 have h1:=Z3 L h0
 have h2:g*lB<L*B:=by
  have:=Zs (show g<=B-1 by omega) (show lB<=L by have:=G.lBL;omega);have hL:0<L:=by have:=G.lBL;omega
  have h3:(B-1)*L+L=L*B:=by
   have:=G.B0;obtain ⟨b,rfl⟩:∃ b,B=b+1:=⟨B-1,aa⟩;rw [Xj,Zx L,Ya]
  omega
 have h3:g*v=g*lB+L*(g*(y0+B*y1)):=by
  rw [G.v_eq,Zp,Za g L]
 have h4:=G.vpos;have h5:=G.D_eq;omega
theorem Gs.le (G:Gs B L lD lB x0 x1 x2 y0 y1 D v hi) (h:g*v<D+v):g<=D / v+1:=by
 have h1:=Yj D v;have h2:=Y3 D G.pos;rcases Zl (D / v+1) g with h3 | h3
 ·have h4:=Z0 v (show D / v+2<=g by omega);rw [Nat.add_mul,Zx (D / v) v] at h4;omega
 ·exact h3
end
end Go.Big
namespace Go.Vm
open Go Go.Am Go.Big
theorem tN {l:List Nat} {m n v:Nat} (h:m≠n):nth 0 (l.set m v) n=nth 0 l n:=by simp [nth,List.getElem?_set_ne h]
structure Frm (l l':List Nat) (a b:Nat):Prop where
 len:l'.length=l.length
 same:∀ m,m<a∨b<=m->nth 0 l' m=nth 0 l m
theorem yX {g at_:Nat} (hg:g<Z) {db:List Nat} (hsb:aD Z db):∀ (r j c w:Nat) (l:List Nat),at_+j+r<=l.length->c<Z->w<=1->aD Z l->c+g*val Z (db.drop j)<Z ^ r ->
  Frm l (fU g at_ db r j c w l).2 (at_+j) (at_+j+r)∧aD Z (fU g at_ db r j c w l).2∧(fU g at_ db r j c w l).1<=1 ∧
  val Z (fU g at_ db r j c w l).2+Z ^ (at_+j)*(c+g*val Z (db.drop j)+w)=val Z l+Z ^ (at_+j+r)*(fU g at_ db r j c w l).1
 | 0,j,c,w,l,hl,hc,hw,hs,hT=>by
  have h0:c+g*val Z (db.drop j)=0:=by simp at hT;omega
  refine ⟨⟨rfl,fun _ _=>rfl⟩,hs,hw,?_⟩;rw [h0,Zj];rfl
 | r+1,j,c,w,l,hl,hc,hw,hs,hT=>by
  obtain ⟨m,hm⟩:∃ m,m=at_+j:=⟨_,rfl⟩;have hml:m<l.length:=aa;obtain ⟨x,hx⟩:∃ x,nth 0 l m=x:=⟨_,rfl⟩;have hxs:x<Z:=by rw [<- hx];exact hs.getD bg m
  obtain ⟨y,hy⟩:∃ y,nth 0 db j=y:=⟨_,rfl⟩;rw [fU,hy,<- hm,hx];have hvd:val Z (db.drop j)=y+Z*val Z (db.drop (j+1)):=by rw [mM,show db.getD j 0=y from hy]
  obtain ⟨V,hV⟩:∃ V,val Z (db.drop (j+1))=V:=⟨_,rfl⟩;rw [hvd,hV] at hT ⊢;obtain ⟨t,ht⟩:∃ t,c+g*y=t:=⟨_,rfl⟩;rw [ht];obtain ⟨tm,htm⟩:∃ tm,t % Z=tm:=⟨_,rfl⟩;obtain ⟨td,htd⟩:∃ td,t / Z=td:=⟨_,rfl⟩;have hdm:t=tm+Z*td:=by rw [<- htm,<- htd];exact (X3 t Z).symm
  have htmZ:tm<Z:=by rw [<- htm];exact Y3 _ bg
  rw [htm,htd]
  have hsum:c+g*(y+Z*V)=tm+Z*(td+g*V):=by
   rw [Zp,Za g Z,Zp];omega
  rw [hsum] at hT ⊢
  have hT2:td+g*V<Z ^ r:=by
   rw [Nat.pow_succ,Zx (Z ^ r)] at hT;have:Z*(td+g*V)<Z*Z ^ r:=aa;exact Xu this
  have htdZ:td<Z∨True:=.inr trivial
  have step:∀ (v w':Nat),v<Z->w'<=1->v+(tm+w)=x+Z*w'->td<Z ->
    Frm l (fU g at_ db r (j+1) td w' (l.set m v)).2 (at_+j) (at_+j+(r+1))∧aD Z (fU g at_ db r (j+1) td w' (l.set m v)).2∧(fU g at_ db r (j+1) td w' (l.set m v)).1<=1 ∧
    val Z (fU g at_ db r (j+1) td w' (l.set m v)).2+Z ^ m*(tm+Z*(td+g*V)+w)=val Z l+Z ^ (m+(r+1))*(fU g at_ db r (j+1) td w' (l.set m v)).1:=by
   intro v w' hv hw' he htd2;obtain ⟨⟨f1,f2⟩,i2,i3,i4⟩:=yX hg hsb (g:=g) (at_:=at_) r (j+1) td w' (l.set m v) aR htd2 hw' (hs.set hv) (by rw [hV];exact hT2);refine ⟨⟨by rw [f1];simp,fun n hn=>?_⟩,i2,i3,?_⟩
   ·rw [f2 n aa,tN aa]
   ·have hvs:=sj (B:=Z) l m v hml;rw [show l.getD m 0=x from hx] at hvs;rw [hV,show at_+(j+1)=m+1 by omega] at i4;rw [show m+(r+1)=m+1+r by omega];generalize val Z (fU g at_ db r (j+1) td w' (l.set m v)).2=R at *;generalize (fU g at_ db r (j+1) td w' (l.set m v)).1=W at *;generalize val Z (l.set m v)=R1 at *;generalize val Z l=R0 at *;generalize td+g*V=T at *
    rw [Nat.pow_succ Z m,Nat.mul_assoc (Z ^ m) Z (T+w')] at i4;generalize Z ^ m=P at *;have h1:P*v+P*(tm+w)=P*x+P*(Z*w'):=by rw [<- Zp,<- Zp,he]
    have h2:P*(Z*(T+w'))=P*(Z*T)+P*(Z*w'):=by rw [Zp Z,Zp]
    have h3:P*(tm+Z*T+w)=P*(tm+w)+P*(Z*T):=by rw [<- Zp];congr 1;omega
    omega
  have htd2:td<Z:=by
   have hy2:y<Z:=by rw [<- hy];exact hsb.getD bg j
   have:=Zs (show g<=999999999 by simp only [Z] at hg;omega) (show y<=999999999 by simp only [Z] at hy2;omega);simp only [Z] at *;omega
  rw [<- hm] at step;by_cases hlt:x<tm+w
  ·simp only [if_pos hlt];exact step _ 1 aa (Z7 _) aa htd2
  ·simp only [if_neg hlt];exact step _ 0 aa (Ys _) aa htd2
theorem AR {at_:Nat} {db:List Nat} (hsb:aD Z db):∀ (r j c:Nat) (l:List Nat),at_+j+r<=l.length->c<=1->aD Z l ->
  Frm l (nu at_ db r j c l) (at_+j) (at_+j+r)∧aD Z (nu at_ db r j c l) ∧
  ∃ ce,val Z (nu at_ db r j c l)+Z ^ (at_+j+r)*(ce+val Z (db.drop (j+r)))=val Z l+Z ^ (at_+j)*(c+val Z (db.drop j))
 | 0,j,c,l,hl,hc,hs=>⟨⟨rfl,fun _ _=>rfl⟩,hs,c,rfl⟩
 | r+1,j,c,l,hl,hc,hs=>by
  obtain ⟨m,hm⟩:∃ m,m=at_+j:=⟨_,rfl⟩;have hml:m<l.length:=aa;obtain ⟨x,hx⟩:∃ x,nth 0 l m=x:=⟨_,rfl⟩;have hxs:x<Z:=by rw [<- hx];exact hs.getD bg m
  obtain ⟨y,hy⟩:∃ y,nth 0 db j=y:=⟨_,rfl⟩;have hys:y<Z:=by rw [<- hy];exact hsb.getD bg j
  rw [nu,hy,<- hm,hx];have hvd:val Z (db.drop j)=y+Z*val Z (db.drop (j+1)):=by rw [mM,show db.getD j 0=y from hy]
  obtain ⟨t,ht⟩:∃ t,c+x+y=t:=⟨_,rfl⟩;rw [ht];obtain ⟨tm,htm⟩:∃ tm,t % Z=tm:=⟨_,rfl⟩;obtain ⟨td,htd⟩:∃ td,t / Z=td:=⟨_,rfl⟩;have hdm:t=tm+Z*td:=by rw [<- htm,<- htd];exact (X3 t Z).symm
  have htmZ:tm<Z:=by rw [<- htm];exact Y3 _ bg
  have htd1:td<=1:=by simp only [Z] at *;omega
  rw [htm,htd];obtain ⟨⟨f1,f2⟩,i2,ce,i4⟩:=AR hsb (at_:=at_) r (j+1) td (l.set m tm) aR htd1 (hs.set htmZ);refine ⟨⟨by rw [f1];simp,fun n hn=>?_⟩,i2,ce,?_⟩
  ·rw [f2 n aa,tN aa]
  ·have hvs:=sj (B:=Z) l m tm hml;rw [show l.getD m 0=x from hx] at hvs;rw [show at_+(j+1)=m+1 by omega,show j+1+r=j+(r+1) by omega] at i4;rw [show m+(r+1)=m+1+r by omega,hvd];generalize val Z (nu at_ db r (j+1) td (l.set m tm))=R at *;generalize val Z (l.set m tm)=R1 at *;generalize val Z l=R0 at *;generalize val Z (db.drop (j+1))=V at *
   rw [Nat.pow_succ Z m,Nat.mul_assoc (Z ^ m) Z (td+V)] at i4;generalize Z ^ (m+1+r)*(ce+val Z (db.drop (j+(r+1))))=Q at *;generalize Z ^ m=P at *;have h1:P*tm+P*(Z*td)=P*x+P*(c+y):=by rw [<- Zp,<- Zp,<- hdm,<- ht];congr 1;omega
   have h2:P*(Z*(td+V))=P*(Z*td)+P*(Z*V):=by rw [Zp Z,Zp]
   have h3:P*(c+(y+Z*V))=P*(c+y)+P*(Z*V):=by rw [<- Zp];congr 1;omega
   omega
theorem Frm.take {l l':List Nat} {a b:Nat} (h:Frm l l' a b):l'.take a=l.take a:=by
 refine List.ext_getElem (by simp [h.len]) fun i h1 h2=>?_
 simp only [Zn] at h1 h2;have:=h.same i (.inl aa);rw [gD _ _ _ aa,gD _ _ _ aa] at this;simpa using this
theorem Frm.drop {l l':List Nat} {a b:Nat} (h:Frm l l' a b):l'.drop b=l.drop b:=by
 refine List.ext_getElem (by simp [h.len]) fun i h1 h2=>?_
 simp only [Yd] at h1 h2;have:=h.same (b+i) (.inr aa);rw [gD _ _ _ aa,gD _ _ _ aa] at this;simpa using this
theorem GW {al db:List Nat} {i g:Nat} (hsa:aD Z al) (hsb:aD Z db) (hi:i+db.length<al.length) (hg:g<Z) (hD:val Z (al.drop i)<Z*val Z db) (h1:g*val Z db<val Z (al.drop i)+val Z db) (h2:val Z (al.drop i) / val Z db<=g)
  {w:Nat} {l1 l2:List Nat} (hw:(fU g i db (db.length+1) 0 0 0 al).1=w) (hl1:(fU g i db (db.length+1) 0 0 0 al).2=l1) (hl2:nu i db (db.length+1) 0 0 l1=l2) :
  (l1.length=al.length∧aD Z l1) ∧
  (w=0->aD Z l1∧l1.length=al.length∧l1.take i=al.take i∧g=val Z (al.drop i) / val Z db∧val Z (l1.drop i)=val Z (al.drop i) % val Z db) ∧
  (0<w->aD Z l2∧l2.length=al.length∧l2.take i=al.take i∧0<g∧g-1=val Z (al.drop i) / val Z db∧val Z (l2.drop i)=val Z (al.drop i) % val Z db):=by
 have hvb:=gO (B:=Z) bg hsb
 have hvp:0<val Z db:=by
  rcases Zk (val Z db) with h | h
  ·rw [h] at hD;simp at hD
  ·exact h
 have hpow:Z ^ (db.length+1)=Z*Z ^ db.length:=by rw [Nat.pow_succ,Zx]
 have hDlt:val Z (al.drop i)<Z ^ (db.length+1):=by
  rw [hpow];exact Nat.lt_trans hD (Nat.mul_lt_mul_of_pos_left hvb bg)
 have htop:val Z (al.drop (i+(db.length+1)))=0:=by
  rw [<- List.drop_drop];exact Fb bg hDlt
 obtain ⟨f,s1,w1,e⟩:=yX hg hsb (db.length+1) 0 0 0 al aa bg (Ys _) hsa (by
  rw [Yo,Zj,hpow];have a1:=Z3 g (show val Z db<=Z ^ db.length by omega);have a2:=Nat.mul_lt_mul_of_pos_right hg (show 0<Z ^ db.length from Yk bg);omega) (at_:=i) (g:=g)
 rw [hw,hl1] at e;rw [hl1] at f s1;rw [hw] at w1;simp only [Nat.add_zero,Yo,Zj] at e f;have len1:=f.len
 have below:∀ {l:List Nat},aD Z l->l.drop (i+(db.length+1))=al.drop (i+(db.length+1))->val Z (l.drop i)<Z ^ (db.length+1):=fun {l} hs he=>by
  have hz:=jm (B:=Z) (l.drop i) (min (db.length+1) (l.drop i).length) (Nat.min_le_right ..);by_cases hc:db.length+1<=(l.drop i).length
  ·rw [Y4 hc,List.drop_drop,he,htop,Nat.mul_zero,Nat.add_zero] at hz;rw [hz];have:=gO (B:=Z) bg ((hs.drop i).take (db.length+1));rw [Zn,Y4 hc] at this;exact this
  ·have:=gO (B:=Z) bg (hs.drop i);exact Z1 this (Z4 bg aa)
 have hsp:∀ {l:List Nat},l.length=al.length->l.take i=al.take i->val Z l=val Z (al.take i)+Z ^ i*val Z (l.drop i):=fun {l} h h'=>by
  rw [<- h'];exact jm l i aa
 have hal:=jm (B:=Z) al i aa;have hdm:=Yj (val Z (al.drop i)) (val Z db);have hml:=Y3 (val Z (al.drop i)) hvp;have b1:=below s1 f.drop;rw [hsp len1 f.take,hal,Yy,Nat.mul_assoc (Z ^ i)] at e
 have e2:val Z (l1.drop i)+g*val Z db=val Z (al.drop i)+Z ^ (db.length+1)*w:=by
  have:Z ^ i*(val Z (l1.drop i)+g*val Z db)=Z ^ i*(val Z (al.drop i)+Z ^ (db.length+1)*w):=by rw [Zp,Zp];omega
  exact Yg (Yk bg) this
 obtain ⟨D,hDe⟩:∃ D,val Z (al.drop i)=D:=⟨_,rfl⟩;obtain ⟨v,hve⟩:∃ v,val Z db=v:=⟨_,rfl⟩;refine ⟨⟨len1,s1⟩,fun w0=>?_,fun wp=>?_⟩
 ·subst w0;rw [Nat.mul_zero,Nat.add_zero] at e2
  have hq:g=val Z (al.drop i) / val Z db:=by
   refine Nat.le_antisymm ?_ h2;rw [Xe hvp];omega
  refine ⟨s1,len1,f.take,hq,?_⟩;rw [<- hq] at hdm;rw [Zx] at hdm;omega
 ·have hw1:w=1:=aa;subst hw1;obtain ⟨f2,s2,ce,e3⟩:=AR hsb (at_:=i) (db.length+1) 0 0 l1 aa (Ys _) s1;rw [hl2] at f2 s2 e3;simp only [Nat.add_zero,Yo,Zj] at e3 f2;have hdn:db.drop (db.length+1)=[]:=Zd aa;rw [hdn,show val Z []=0 from rfl] at e3;simp only [Nat.add_zero] at e3
  have len2:l2.length=al.length:=by rw [f2.len,len1]
  have tk2:l2.take i=al.take i:=by rw [f2.take,f.take]
  have b2:=below s2 (by rw [f2.drop,f.drop]);rw [hsp len2 tk2,hsp len1 f.take,Yy,Nat.mul_assoc (Z ^ i)] at e3
  have e4:val Z (l2.drop i)+Z ^ (db.length+1)*ce=val Z (l1.drop i)+val Z db:=by
   have:Z ^ i*(val Z (l2.drop i)+Z ^ (db.length+1)*ce)=Z ^ i*(val Z (l1.drop i)+val Z db):=by rw [Zp,Zp];omega
   exact Yg (Yk bg) this
  have hgl:g*val Z db<=(val Z (al.drop i) / val Z db+1)*val Z db:=by
   rcases Zl (val Z (al.drop i) / val Z db+1) g with h3 | h3
   ·exfalso;have h4:=Z0 (val Z db) (show val Z (al.drop i) / val Z db+2<=g by omega);rw [Nat.add_mul,Zx (val Z (al.drop i) / val Z db)] at h4;omega
   ·exact Z0 _ h3
  have hgp:0<g:=by
   rcases Zk g with h | h
   ·subst h;omega
   ·exact h
  have hgq:g=val Z (al.drop i) / val Z db+1:=by
   refine Nat.le_antisymm ?_ ?_
   ·exact Nat.le_of_mul_le_mul_right hgl hvp
   ·rw [Nat.succ_le_iff,Xw hvp];omega
  refine ⟨s2,len2,tk2,hgp,aa,?_⟩;rw [hgq,Nat.add_mul,Xp,Zx (val Z (al.drop i) / val Z db)] at e2;generalize Z ^ (db.length+1)=P at *
  have hce:ce=1:=by
   rcases Zl ce 1 with h | h
   ·have:ce=0:=aa;subst this;omega
   ·rcases Zl ce 2 with h' | h'
    ·omega
    ·have:=Z3 P h';omega
  subst hce;omega
def DW (o:List Nat):Hp:=[(1,.data 1 (o.map u6) true false),(0,.none)]
theorem uL (o:List Nat):(DW o)[0]? = some (1,.data 1 (o.map u6) true false):=rfl
theorem NC (o o':List Nat):(DW o).set 0 (1,.data 1 (o'.map u6) true false)=DW o':=rfl
@[simp] theorem UK (o:List Nat):(DW o).length=2:=rfl
theorem w6 {p:List Nat} (hsp:aD Z p) (hpl:p.length<1000000000000) {n N:Nat} (hn:0<n) (hnZ:n<=Z) (hN:N=p.length) (k:KL) (h0:Hp) (hh:h0.length=2) :
  ∀ (i:Nat) (o:List Nat) (r:Nat),i<=p.length->o.length=N->aD Z o->r<n->val Z (p.drop i)=n*val Z (o.drop i)+r ->
  (∀ o' r',o'.length=N->aD Z o'->r'<n->val Z p=n*val Z o'+r'->k (.exit 0) [U (r':Nat)] (DW o')) ->
  lp (fu (CX Y) (lst u6 p) (U n) (.ref 0 1 0 N N N)) [] h0 [U r,I ((i:Int)-1)] (DW o) k
 | 0,o,r,hi,ho,hso,hr,hv,hk=>by
  refine ax ?_;simp (disch:=try exact ac)[fu];exact hk o r ho hso hr (by simpa using hv)
 | i+1,o,r,hi,ho,hso,hr,hv,hk=>by
  obtain ⟨x,hx⟩:∃ x,nth 0 p i=x:=⟨_,rfl⟩;have hxs:x<Z:=by rw [<- hx];exact hsp.getD bg i
  have e1:=fun h:Hp=>dP u6 p h (k:=.i64) (i:=(i:Int)) aa aa
  have e2:=fun h:Hp=>zS p h (j:=i) aa
  rw [hx] at e2;have r3:=xL (uL o) ho.symm (len:=N) (cap:=N) (i:=(i:Int)) aa aa .i64;have r5:=KR (uL o) ho.symm (j:=i) aa;simp only [NC] at r5;simp only [Int.toNat_natCast] at e1 r3;have e0:((i+1:Nat):Int)-1=(i:Int):=aa;have hZ:Z=1000000000:=rfl;obtain ⟨t,ht⟩:∃ t,r*Z+x=t:=⟨_,rfl⟩;obtain ⟨q,hq⟩:∃ q,t / n=q:=⟨_,rfl⟩
  obtain ⟨r2,hr2⟩:∃ r2,t % n=r2:=⟨_,rfl⟩;have hdm:n*q+r2=t:=by rw [<- hq,<- hr2];exact Yj t n
  have hr2n:r2<n:=by rw [<- hr2];exact Y3 _ hn
  have htn:t<Z*n:=by
   have:=Z0 Z (show r+1<=n by omega);rw [Nat.add_mul,Zx n Z] at this;omega
  have hqZ:q<Z:=by rw [<- hq];exact Xa (by rw [Zx];exact htn)
  have htb:t<1000000000000000001:=by
   have:=Z3 Z hnZ;simp only [hZ] at *;omega
  have hdr:(o.set i q).drop i=q::o.drop (i+1):=by
   rw [List.drop_set,if_neg aa,Nat.sub_self];rw [Y7 (show i<o.length by omega)];rfl
  have ih:=w6 hsp hpl hn hnZ hN k h0 hh i (o.set i q) r2 aa (by simpa using ho) (hso.set hqZ) hr2n (by
   rw [mM,show p.getD i 0=x from hx,hv,hdr];simp only [val];rw [Zp,Zp,Za n Z,Zx Z r];omega) hk
  have r6:=r5 q;have e3:(r:Int)*1000000000+(x:Int)=(t:Int):=by simp only [hZ] at ht;omega
  have e4:(t:Int) / (n:Int)=(q:Int):=by rw [<- hq];simp
  have e5:(t:Int) % (n:Int)=(r2:Int):=by rw [<- hr2];simp
  have hrb:r<1000000000:=by simp only [hZ] at hnZ;omega
  have hn0:¬ ((n:Int)=0):=aa;have hqb:(q:Int)<18446744073709551616:=by simp only [hZ] at hqZ;omega
  refine ax ?_;rw [e0];simp (disch:=try exact ac)[fu,e1,e2,e3,r3,hn0,Zt,Zy,e4,e5,r6,hh];simpa using ih
theorem B9 (l:List Nat):∃ z,l=fD l++List.replicate z 0:=by
 induction hn:l.length generalizing l with
 | zero=>
  have:l=[]:=Zi hn;subst this;exact ⟨0,rfl⟩
 | succ n ih=>
  obtain ⟨l,x,rfl⟩:∃ l' x,l=l'++[x]:=⟨l.dropLast,l.getLast (by intro e;simp [e] at hn),(List.dropLast_concat_getLast _).symm⟩;by_cases hx:x=0
  ·subst hx;rw [mZ];obtain ⟨z,hz⟩:=ih l (by simpa using hn);refine ⟨z+1,?_⟩
   conv=>lhs;rw [hz]
   rw [List.append_assoc,List.replicate_succ']
  ·rw [tA hx];exact ⟨0,af⟩
theorem vV {l:List Nat}:l.take (fD l).length=fD l:=by
 obtain ⟨z,hz⟩:=B9 l;generalize fD l=t at *;subst hz;rw [Yi rfl]
theorem uu (h:Hp) (n:Int):bY h (U n)=some (U n,h):=rfl
theorem av {h h1 h2:Hp} {a b va vb:V} (ha:bY h a=some (va,h1)) (hb:bY h1 b=some (vb,h2)):out (.tup [va,vb]) (.tup [a,b]) h:=
 ⟨h2,by simp only [bY,aH,ha,hb]⟩
theorem gY {h h1 h2 h3:Hp} {a b c va vb vc:V} (ha:bY h a=some (va,h1)) (hb:bY h1 b=some (vb,h2)) (hc:bY h2 c=some (vc,h3)):out (.tup [va,vb,vc]) (.tup [a,b,c]) h:=
 ⟨h3,by simp only [bY,aH,ha,hb,hc]⟩
theorem Ce {a n:Nat} (ha:(dig Z a).length<100000000) (hn:0<n) (hnZ:n<=Z):CP Y F.bV [pcs a,U n] (.tup [pcs (a / n),U (a % n:Nat)]):=by
 refine qw ?_;obtain ⟨p,hp⟩:∃ p,dig Z a=p:=⟨_,rfl⟩;have hsp:aD Z p:=by rw [<- hp];exact bL au a
 have hval:val Z p=a:=by rw [<- hp];exact fF au a
 rw [pcs,hp];rw [hp] at ha;simp (disch:=try exact ac)[bV];have e2:[(1,Bk.data 1 (List.replicate p.length (D.int IntKind.u64 0)) true false),(0,.none)]=DW (List.replicate p.length 0):=by simp [DW,u6]
 rw [e2];refine lo (w6 hsp aa hn hnZ rfl _ _ rfl p.length (List.replicate p.length 0) 0 (Z7 _) af (fun x hx=>by rw [Xi] at hx;rw [hx.2];exact bg) hn (by rw [List.drop_length,Zd af];simp [val]) fun o r ho hs hr hv=>?_);simp only [iB];rw [hval] at hv
 have hq:val Z o=a / n:=by rw [hv,Nat.mul_add_div hn,Xm hr,Nat.add_zero]
 have hr2:r=a % n:=by rw [hv,Nat.mul_add_mod,Yp hr]
 have ht:fD (o.take p.length)=dig Z (a / n):=by rw [Zw aa,<- hq,nI au hs]
 have tr:=pu (h:=DW o) rfl (uL o) ho.symm (len:=p.length) (cap:=p.length) (Z7 _) aa (Z7 _);rw [ht] at tr;refine lV tr ?_ af
 have htl:o.take (dig Z (a / n)).length=dig Z (a / n):=by
  have h2:fD o=dig Z (a / n):=by rw [<- hq,nI au hs]
  rw [<- h2];exact vV
 have sn:=rC (uL o) ho.symm (len:=(dig Z (a / n)).length) (cap:=p.length) (by rw [lN au,<- hq,<- ho];exact gO bg hs) (Z7 _);rw [htl] at sn;have e6:((a:Int) % (n:Int))=((a % n:Nat):Int):=af;rw [hr2,e6];exact av sn (uu _ _)
end Go.Vm
