/- Lemmas. -/
import Derived.Test.YtblmpbfchgnclabGreatDoorQStr
set_option linter.unusedVariables false
set_option linter.unusedSimpArgs false
namespace Go.Vm
open Go Go.Am Go.Big
variable{j cap n b c N f:Nat}{i:Int}
def u6(n:Nat):D:=.int .u64 n
abbrev U(n:Int):V:=.d (.int .u64 n)
@[simp]theorem aiP(n:Nat):V.d (u6 n)=U n:=id rfl
def pcs(n:Nat):V:=lst u6 (dig Z n)
theorem adP(n:Nat):pcs n=lst u6 (dig Z n):=rfl
theorem E5(l:LnQ)(h:Hp)(hl:j<l.length):ld1 h (.dptr (l.map u6) j)=some (U (nth 0 l j:Nat)):=aC u6 0 l h hl
variable{h:Hp}{s e tot:Nat}{l:LnQ}{ex fr:Bool}
theorem CW(hg:h[s]?=some (e,.data 1 (l.map u6) ex fr))(ht:tot=l.length){len:Nat}(h0:0<=i)(h1:i<len)(k:IntKind):ixV h 1 (.ref s e 0 len cap tot) (.d (.int k i))=some (.ptr s e i.toNat tot):=by simp only[ixV,eG hg];rw[if_pos ⟨by simp[ht],h0,h1⟩];simp
theorem Jr(hg:h[s]?=some (e,.data 1 (l.map u6) ex fr))(ht:tot=l.length)(hj:j<l.length):ld1 h (.ptr s e j tot)=some (U (nth 0 l j:Nat)):=by
 have e1:tot=(l.map u6).length:=by simp[ht]
 simp only[ld1,eG hg,if_pos e1,List.getElem?_map,List.getElem?_eq_getElem hj,Option.map_some,aN 0 l j hj];rfl
theorem Ra(hg:h[s]?=some (e,.data 1 (l.map u6) ex false))(ht:tot=l.length)(hj:j<l.length)(x:Nat):st h 1 (.ptr s e j tot) (U x)=some (h.set s (e,.data 1 ((l.set j x).map u6) ex false)):=by
 have e1:(l.map u6).take j++[u6 x]++(l.map u6).drop (j+1)=(l.set j x).map u6:=by
  rw[List.map_set,Ya,if_pos bK];simp
 simp only[st,if_true,sto,eG hg,iH,toD];rw[if_pos ⟨trivial,by simp[ht],bK⟩];simp only[bS,List.length_singleton];rw[<-e1];rfl
theorem ahJ(hg:h[s]?=some (e,.data 1 (l.map u6) ex fr))(ht:tot=l.length){len:Nat}(h0:0<=i)(h1:i<=cap)(hlc:len<=cap):slV h 1 (.ref s e 0 len cap tot) none (some (I i))=some (.ref s e 0 i.toNat cap tot):=by simp only[slV,eG hg,boV];rw[if_pos ⟨aa,h1⟩];simp[ht,hlc]
theorem wL(hg:h[s]?=some (e,.data 1 (l.map u6) ex fr))(ht:tot=l.length){len:Nat}(h1:len<=cap)(hc:cap<=tot):bJ h (.ref s e 0 len cap tot)=some (lst u6 (l.take len),h.set s (e,.data 1 (l.map u6) ex true)):=by simp only[bJ,toD,eG hg];rw[if_pos ⟨by simp[ht],h1,bK⟩];simp[lst,List.map_take,bS];omega
theorem G5{h:Hp}{s e cap tot:Nat}{l:LnQ}{ex fr:Bool}(hg:h[s]?=some (e,.data 1 (l.map u6) ex fr))(ht:tot=l.length)(hc:cap<=tot)(hb:cap<1000000000000)(k:KL)(h0:Hp)(hh:h0.length=h.length):∀len,len<=cap->k (.exit 0) [.ref s e 0 (iN (l.take len)).length cap tot] h->lp (bO (CX Y) h.length) [] h0 [.ref s e 0 len cap tot] h k
 | 0,hl,hk=>by
  refine aj ?_;simp[bO];simpa[iN]using hk
 | len+1,hl,hk=>by
  have e1:=CW hg ht (len:=len+1) (cap:=cap) (i:=(len:Int)) aa aa .i64;have e2:=Jr hg ht (j:=len) aa;have e3:=ahJ hg ht (len:=len+1) (cap:=cap) (i:=(len:Int)) aa aa aa;have e4:l.take (len+1)=l.take len++[nth 0 l len]:=by rw[aN 0 l len aa,List.take_append_getElem]
  rw[Int.toNat_natCast]at e1 e3;refine aj ?_;by_cases h2:nth 0 l len=0
  .rw[e4,h2,qW]at hk;have ih:=G5 hg ht hc hb k h0 hh len aa hk;simp(disch:=try exact ag)[bO,e1,e2,e3,h2,hh];exact ih
  .rw[e4,yG h2]at hk;have e5:(l.take len++[nth 0 l len]).length=len+1:=by simp;omega
   rw[e5]at hk;simp(disch:=try exact ag)[bO,e1,e2,e3,h2];exact hk
theorem uu{h:Hp}(hu:(h.all fun x=>bW h.length x.2)=true){s e len tot:Nat}{l:LnQ}{ex fr:Bool}(hg:h[s]?=some (e,.data 1 (l.map u6) ex fr))(ht:tot=l.length)(hc:cap<=tot)(hb:cap<1000000000000)(hl:len<=cap):
  CI Y F.ay [.ref s e 0 len cap tot] h (.ref s e 0 (iN (l.take len)).length cap tot) h:=by refine p6 ?_;simp[ay];refine lo (G5 hg ht hc hb _ _ rfl len hl ?_);simp;have hs:=bH hg;refine⟨af,by simpa using hu,.inl ⟨rfl,?_⟩⟩;simp[under,hs]
theorem Q0{h:Hp}{l0:LnQ}(k:KL)(h0:Hp)(hh:h0.length=h.length):∀l:LnQ,l.length<1000000000000->k (.exit 0) [lst u6 (iN l)] h->lp (bO (CX Y) h.length) [] h0 [lst u6 l] h k:=by
 intro l hb hk
 induction hn:l.length generalizing l with
 | zero=>
  have:l=[]:=Zf hn;subst this;refine aj ?_;simp[bO];exact hk
 | succ n ih=>
  obtain⟨l,x,rfl⟩:∃l' x,l=l'++[x]:=⟨l.dropLast,l.getLast (by intro e;simp[e]at hn),(List.dropLast_concat_getLast _).symm⟩;have hl:l.length=n:=by simpa using hn
  have e1:=fun h:Hp=>kv u6 (l++[x]) h (k:=.i64) (i:=(l.length:Int)) aa bK
  have e2:=fun h:Hp=>E5 (l++[x]) h (j:=l.length) af
  have e3:=fun h:Hp=>afq u6 (l++[x]) h (i:=(l.length:Int)) aa bK af
  have e4:nth 0 (l++[x]) l.length=x:=af;simp only[Int.toNat_natCast,V6]at e1 e3;rw[e4]at e2;have e5:((l++[x]).length:Int)=(l.length:Int)+1:=af;have e6:bj (lst u6 (l++[x]))=some (I ((l.length:Int)+1)):=by rw[<-e5];rfl
  have hb2:l.length<1000000000000:=by simp at hb;omega
  refine aj ?_;by_cases hx:x=0
  .subst hx;rw[qW]at hk;simp(disch:=try exact ag)[bO,e1,e2,e3,e6,hh];exact ih l hb2 hk hl
  .rw[yG hx]at hk;simp(disch:=try exact ag)[bO,e1,e2,e3,e6,hx];exact hk
theorem ZK{h:Hp}(hu:(h.all fun x=>bW h.length x.2)=true){l:LnQ}(hb:l.length<1000000000000):CI Y F.ay [lst u6 l] h (lst u6 (iN l)) h:=by refine p6 ?_;simp[ay];refine lo (Q0 (l0:=l) _ _ rfl l hb ?_);simp;refine⟨af,by simpa using hu,.inl ⟨rfl,rfl⟩⟩
def RdP(h:Hp)(a:V)(l:LnQ):Prop:=bj a=some (I l.length)∧∀(t:Hp)(i:Nat),i<l.length->∃p,ixV (h++t) 1 a (I i)=some p∧ld1 (h++t) p=some (U (nth 0 l i:Nat))
theorem Nc(h:Hp)(l:LnQ):RdP h (lst u6 l) l:=by refine⟨rfl,fun t i hi=>⟨.dptr (l.map u6) i,?_,E5 l _ hi⟩⟩;have:=kv u6 l (h++t) (k:=.i64) (i:=(i:Int)) aa aa;trivial
theorem ES{l:LnQ}{i:Nat}(h:i<n):nth 0 (l.take n) i=nth 0 l i:=by grind[nth]
theorem DX{h:Hp}{s e len tot:Nat}{l:LnQ}{ex fr:Bool}(hg:h[s]?=some (e,.data 1 (l.map u6) ex fr))(ht:tot=l.length)(hl:len<=tot):RdP h (.ref s e 0 len cap tot) (l.take len):=by
 have e1:(l.take len).length=len:=by simp;omega
 refine⟨by simp_all,fun t i hi=>⟨.ptr s e i tot,?_,?_⟩⟩
 .have hs:=bH hg;have:=CW (h:=h++t) (by rw[List.getElem?_append_left hs];exact hg) ht (len:=len) (cap:=cap) (i:=(i:Int)) aa aa .i64;trivial
 .have hs:=bH hg;rw[ES aa];exact Jr (h:=h++t) (by rw[List.getElem?_append_left hs];exact hg) ht aa
def pH(h:Hp)(o:LnQ):Hp:=h++[(1,.data 1 (o.map u6) true false),nnQ]
theorem BC(h:Hp)(o:LnQ):(pH h o)[h.length]?=some (1,.data 1 (o.map u6) true false):=by simp[pH]
theorem UA(h:Hp)(o o':LnQ):(pH h o).set h.length (1,.data 1 (o'.map u6) true false)=pH h o':=by simp[pH]
@[simp]theorem UB(h:Hp)(o:LnQ):(pH h o).length=h.length+2:=by simp[pH]
theorem YC{s:Nat}(hbc:b<=c)(h:Nat.blt s b=true):Nat.blt s c=true:=by grind[Nat.blt_eq]
mutual
theorem Kq{b c:Nat}(hbc:b<=c):∀v:V,under b v=true->under c v=true
 |.ref s ..,h=>YC hbc h
 |.ptr s ..,h=>YC hbc h
 |.agg l,h=>rY hbc l h
 |.tup l,h=>rY hbc l h
 | .fn _ x y,h=>by
  simp only[under,Z8]at h ⊢;exact⟨rY hbc x h.1,rY hbc y h.2⟩
 |.ifc _ x,h=>Kq hbc x h
 |.new ..,h=>by cases h
 |.junk,_=>rfl
 |.d _,_=>rfl
 |.dptr ..,_=>rfl
 |.cut _,h=>by cases h
theorem rY{b c:Nat}(hbc:b<=c):∀l:LwQ,mI b l=true->mI c l=true
 |[],_=>rfl
 | x::l,h=>by
  simp only[mI,Z8]at h ⊢;exact⟨Kq hbc x h.1,rY hbc l h.2⟩
end
theorem G3(hbc:b<=c){x:Bk}(h:bW b x=true):bW c x=true:=by
 cases x with
 |vars l=>exact rY hbc l h
 |none=>rfl
 |data n cs ex fr=>rfl
theorem OV(hbc:b<=c){h:Hp}(hu:(h.all fun x=>bW b x.2)=true):(h.all fun x=>bW c x.2)=true:=by grind[G3]
variable{h:Hp}{t0 t1:V}{da db:LnQ}
theorem Q3(hb:RdP h t1 db)(hsb:aH Z db){x i:Nat}(hx:x<Z)(hN:i+db.length<N)(hNb:N<1000000000000)(k:KL)(h0:Hp)(hh:h0.length=h.length+2)(T:Nat)(o0:LnQ):
  ∀(r c j:Nat)(o:LnQ),j+r=db.length->c<Z->o.length=N->aH Z o->val Z o+Z^(i+j)*(c+x*val Z (db.drop j))=T->(∀m,i+db.length<=m->nth 0 o m=nth 0 o0 m) ->
  (∀c' o',c'<Z->o'.length=N->aH Z o'->val Z o'+Z^(i+db.length)*c'=T->(∀m,i+db.length<=m->nth 0 o' m=nth 0 o0 m)->k (.exit 2) [U (c':Nat)] (pH h o')) ->
  lp (iC (CX Y) h.length (.ref h.length 1 0 N N N) (I i) (U x) t1 (I db.length)) [] h0 [U c,I j] (pH h o) k:=by
 intro r
 induction r with
 | zero=>
  intro c j o hj hc ho hs hv hf hk;have hjl:j=db.length:=aa;subst hjl;have hd:db.drop db.length=[]:=List.drop_length;rw[hd]at hv;simp only[val,Nat.mul_zero,Nat.add_zero]at hv;refine aj ?_;simp[iC]
  grind
 | succ r ih=>
  intro c j o hj hc ho hs hv hf hk;have hjl:j<db.length:=aa;obtain⟨m,hm⟩:=nmQ (i+j);rw[<-hm]at hv;have hij:m<o.length:=aa;obtain⟨y,hy2⟩:=mnQ (db.getD j 0);have hy:=hsb.getD bB j;have hw:=hs.getD bB m;have hst:=UX (B:=Z) (o:=o) (j:=m) (c:=c) (a:=x) (y:=db.getD j 0) (v:=val Z (db.drop (j+1))) hij;rw[<-qC,hv]at hst;rw[hy2]at hy hst
  obtain⟨p,hp⟩:=nmQ (x*y);have hxy:p<=999999999*999999999:=by rw[hp];exact Zn (by grind[Z]) (by grind[Z])
  have hpi:(x:Int)*(y:Int)=(p:Int):=by rw[hp];simp
  rw[<-hp]at hst;have e1:((i:Int)+(j:Int))=(m:Int):=aa;have hZ:Z=1000000000:=rfl;obtain⟨w,hwd⟩:=mnQ (o.getD m 0);rw[hwd]at hst hw;obtain⟨pb,r1,r2⟩:=hb.2 [(1,.data 1 (o.map u6) true false),nnQ] j hjl;rw[show nth 0 db j=y from hy2]at r2;have r3:=CW (BC h o) ho.symm (len:=N) (cap:=N) (i:=(m:Int)) aa aa .i64;have r4:=Jr (BC h o) ho.symm hij
  have r5:=Ra (BC h o) ho.symm hij ((c+w+p)%Z);rw[show nth 0 o m=w from hwd]at r4;rw[Int.toNat_natCast]at r3;rw[UA]at r5
  change ixV (pH h o) 1 t1 (I j)=some pb at r1
  change ld1 (pH h o) pb=_ at r2
  have ih2:=ih ((c+w+p)/Z) (j+1) (o.set m ((c+w+p)%Z)) aa (by grind) (by grind) (hs.set (Y7 _ bB)) (by rw[show i+(j+1)=m+1 by omega];omega)
   (fun n hn=>by rw[<-hf n hn];simp[nth,List.getElem?_set_ne (show m≠n by omega)]) hk
  clear hst hk ih hv;obtain⟨t,ht⟩:=mnQ (c+w+p);have ht2:t<1000000000000000000+2000000000:=by simp only[hZ]at *;omega
  rw[ht]at ih2 r5;obtain⟨tm,htm⟩:=mnQ (t%Z);obtain⟨td,htd⟩:=mnQ (t/Z);rw[htm]at ih2 r5;rw[htd]at ih2;have e2:(c:Int)+((w:Int)+(p:Int))=(t:Int):=aa;have e3:((t:Int)%1000000000)=(tm:Int):=by simp only[hZ]at htm;omega
  have e4:((t:Int)/1000000000)=(td:Int):=by simp only[hZ]at htd;omega
  refine aj ?_;simp(disch:=try exact ag)[iC,r1,r2,r3,r4,e1,hpi,e2,Zx,Zs,e3,e4,r5];trivial
theorem Nv(ha:RdP h t0 da)(hsa:aH Z da)(hb:RdP h t1 db)(hsb:aH Z db)(hla:da.length<100000000)(hlb:db.length<100000000)(k:KL)(h0:Hp)(hh:h0.length=h.length+2)(hN:N=da.length+db.length):
  ∀(r i:Nat)(o:LnQ),i+r=da.length->o.length=N->aH Z o->val Z o=val Z (da.take i)*val Z db->(∀m,i+db.length<=m->nth 0 o m=0) ->
  (∀o',o'.length=N->aH Z o'->val Z o'=val Z da*val Z db->k (.exit 0) [] (pH h o')) ->
  lp (iD (CX Y) h.length t1 (.ref h.length 1 0 N N N) t0 (I da.length)) [] h0 [I i] (pH h o) k:=by
 intro r
 induction r with
 | zero=>
  intro i o hi ho hs hv hf hk;refine aj ?_;have g:¬i<da.length:=aa;simp[iD,g];rw[show i=da.length by omega,Wq]at hv
  grind
 | succ r ih=>
  intro i o hi ho hs hv hf hk;have hil:i<da.length:=aa;obtain⟨pa,r1,r2⟩:=ha.2 [(1,.data 1 (o.map u6) true false),nnQ] i hil;obtain⟨x,hx⟩:=mnQ (nth 0 da i);have hxs:x<Z:=by rw[<-hx];exact hsa.getD bB i
  rw[hx]at r2
  change ixV (pH h o) 1 t0 (I i)=some pa at r1
  change ld1 (pH h o) pa=_ at r2
  have hl:=hb.1;refine aj ?_;simp(disch:=try exact ag)[iD,r1,r2,hl];refine lo (Q3 hb hsb hxs aa aa _ _ (UB h o) (val Z o+Z^i*(x*val Z db)) o db.length 0 0 o aa bB ho hs af (fun _ _=>rfl) fun c' o' hc' ho' hs' hv' hf'=>?_);simp only[iP];obtain⟨m,hm⟩:=nmQ (i+db.length)
  have hml:m<o'.length:=aa;have r3:=CW (BC h o') ho'.symm (len:=N) (cap:=N) (i:=(m:Int)) aa aa .i64;have r5:=Ra (BC h o') ho'.symm hml c';rw[Int.toNat_natCast]at r3;rw[UA]at r5;have e1:((i:Int)+(db.length:Int))=(m:Int):=aa;have e0:nth 0 o' m=0:=by rw[hf' m aa,hf m aa]
  have hvs:=xC (B:=Z) o' m c' hml;rw[show o'.getD m 0=0 from e0]at hvs
  have ih2:=ih (i+1) (o'.set m c') aa (by grind) (hs'.set hc') (by
   rw[yz da hil,show da.getD i 0=x from hx,Nat.add_mul,<-hv]
   grind) (fun n hn=>by
   simp only[nth,Zy,List.getElem?_set_ne (show m≠n by omega)];have:=hf' n aa;rw[hf n aa]at this;exact this) hk
  clear hvs hv' ih hk;simp(disch:=try exact ag)[hl,e1,r3,r5];trivial
theorem Bg(hu:(h.all fun x=>bW h.length x.2)=true)(ha:RdP h t0 da)(hsa:aH Z da)(hb:RdP h t1 db)(hsb:aH Z db)(hla:da.length<100000000)(hlb:db.length<100000000)(hN:N=da.length+db.length):
  CI Y F.bw [t0,t1] h (.new 1 ((bg N (val Z da*val Z db)).map u6) true (dig Z (val Z da*val Z db)).length N) h:=by
 refine vE ?_;have l0:=ha.1;have l1:=hb.1;have e1:((da.length:Int)+(db.length:Int))=(N:Int):=aa;simp(disch:=try exact ag)[bw,l0,l1,e1]
 have e2:h++[(1,Bk.data 1 (List.replicate N (D.int IntKind.u64 0)) true false),nnQ]=pH h (List.replicate N 0):=by
  simp[pH,u6]
 have e3:(h++[(0,Bk.none),(0,Bk.none)]).set h.length (1,Bk.data 1 (List.replicate N (D.int IntKind.u64 0)) true false)=pH h (List.replicate N 0):=by
  simp[pH,u6]
 try simp only[e3]
 try rw[e2]
 refine lo (Nv ha hsa hb hsb hla hlb _ _ (UB ..) hN da.length 0 (List.replicate N 0) aa af (fun x hx=>by grind[bB]) (by simp[oW,val]) (fun m _=>by
  grind[nth]) fun o ho hs hv=>?_)
 simp only[iP];have ht:iN (o.take N)=dig Z (val Z da*val Z db):=by rw[Z6 aa,<-hv,rR ax hs]
 have hu2:((pH h o).all fun x=>bW (pH h o).length x.2)=true:=by
  have hm:(h.all fun x=>bW (pH h o).length x.2)=true:=OV af hu;rw[pH,Yp,<-pH,hm];rfl
 have tr:=uu hu2 (BC h o) ho.symm (len:=N) (cap:=N) (Z7 _) aa (Z7 _);rw[ht]at tr;refine pT tr ?_ af;have hol:o=bg N (val Z da*val Z db):=by rw[<-hv,<-ho];exact DK o hs
 rw[<-hol];refine⟨by simp[pH],aa,.inr (.inr (.inl ⟨h.length,1,_,N,1,o.map u6,true,by grind,Z7 _,by simp[aw,pH],rfl⟩))⟩
def trimS(n:Nat):LnQ:=if n=0 then[]else[n]
theorem SP(n:Nat):iN [n]=trimS n:=by rfl
theorem QZ(n:Nat):val Z (trimS n)=n:=by grind[trimS,val]
theorem Kv(h:n<Z):aH Z (trimS n):=by
 unfold trimS;split
 .exact fun x hx=>by cases hx
 .exact fun x hx=>by grind
theorem EA(hu:(h.all fun x=>bW h.length x.2)=true)(hf:f<Z)(hf0:0<f)(ha:RdP (h++[nnQ,nnQ]) t0 da)(hsa:aH Z da)(hla:da.length<100000000)(hN:N=da.length+1):
  CI Y F.cj [t0,U f] h (.new 1 ((bg N (val Z da*f)).map u6) true (dig Z (val Z da*f)).length N) h:=by
 refine uJ ?_
 have hli:∀h:Hp,cO 1 [D.int .u64 0] [(0,U f)] h=some ([u6 f],h):=fun h=>by
  rfl
 have hu2:((h++[(0,Bk.none),nnQ]).all fun x=>bW (h++[(0,Bk.none),nnQ]).length x.2)=true:=by
  rw[Yp,OV af hu];rfl
 simp[cj,hli];have t1:=ZK hu2 (l:=[f]) af;rw[SP]at t1;refine pT (args:=[lst u6 [f]]) t1 ?_ (by simp[lst]) (by simp[lst]);have hfl:(trimS f).length=1:=by simp[trimS,show f≠0 by omega]
 have t2:=Bg hu2 ha hsa (Nc _ (trimS f)) (Kv hf) hla aa (N:=N) aa;rw[QZ]at t2;simp;refine fe (e:=0) (b:=.none) t2 af ?_;refine⟨af,aa,.inr (.inr (.inl ⟨h.length+1,1,_,N,1,(bg N (val Z da*f)).map u6,true,by rfl,aa,by simp[aw],rfl⟩))⟩
def sP(h:Hp)(s e:Nat)(ex:Bool)(l:LnQ):Hp:=h.set s (e,.data 1 (l.map u6) ex false)
theorem sY{h:Hp}{s e:Nat}{ex:Bool}{l:LnQ}(hs:s<h.length):(sP h s e ex l)[s]?=some (e,.data 1 (l.map u6) ex false):=by simp[sP,hs]
theorem TD{h:Hp}{s e:Nat}{ex:Bool}{l l':LnQ}:(sP h s e ex l).set s (e,.data 1 (l'.map u6) ex false)=sP h s e ex l':=by simp[sP]
@[simp]theorem ahM{h:Hp}{s e:Nat}{ex:Bool}{l:LnQ}:(sP h s e ex l).length=h.length:=by simp[sP]
theorem Bp{h:Hp}{s e:Nat}{ex:Bool}{l:LnQ}(hu:(h.all fun x=>bW b x.2)=true):((sP h s e ex l).all fun x=>bW b x.2)=true:=by
 rw[Zv]at hu ⊢;intro x hx;rcases Yq hx with h1|h1
 .grind
 .rw[h1];rfl
def RdS(P:Hp->Prop)(a:V)(l:LnQ):Prop:=bj a=some (I l.length)∧∀(t:Hp)(i:Nat),P t->i<l.length->∃p,ixV t 1 a (I i)=some p∧ld1 t p=some (U (nth 0 l i:Nat))
def jb(g at_:Nat)(db:LnQ):Nat->Nat->Nat->Nat->LnQ->Nat×LnQ
 |0,_,_,w,l=>(w,l)
 | r+1,k,c,w,l=>
  if nth 0 l (at_+k)<(c+g*nth 0 db k)%Z+w then jb g at_ db r (k+1) ((c+g*nth 0 db k)/Z) 1 (l.set (at_+k) (nth 0 l (at_+k)+Z-((c+g*nth 0 db k)%Z+w)))
  else jb g at_ db r (k+1) ((c+g*nth 0 db k)/Z) 0 (l.set (at_+k) (nth 0 l (at_+k)-((c+g*nth 0 db k)%Z+w)))
variable{h:Hp}{s e tot at_ g:Nat}{ex:Bool}{t1:V}{db:LnQ}
theorem Q4(hs:s<h.length)(hb:RdS (fun t=>∃l,t=sP h s e ex l) t1 db)(hsb:aH Z db)(hg:g<Z)(hat:at_+db.length<tot)(ht:tot<1000000000000){len:Nat}(hlen:tot=len)(k:KL)(h0:Hp)(hh:h0.length=h.length):
  ∀(r j c w:Nat)(l:LnQ),j+r=db.length+1->c<Z->w<=1->l.length=tot->aH Z l ->
  k (.exit 0) [I ((jb g at_ db r j c w l).1:Nat)] (sP h s e ex (jb g at_ db r j c w l).2) ->
  lp (fT (CX Y) h.length (.ref s e 0 len cap tot) t1 (U g) (I at_)) [] h0 [U c,I w,I j] (sP h s e ex l) k:=by
 intro r
 induction r with
 | zero=>
  intro j c w l hj hc hw hl hsl hk;refine aj ?_;have g1:¬j<=db.length:=aa;have hl1:=hb.1;simp[fT,hl1,g1];exact hk
 | succ r ih=>
  intro j c w l hj hc hw hl hsl hk;have hjl:j<=db.length:=aa;obtain⟨m,hm⟩:=nmQ (at_+j);have hml:m<l.length:=aa;obtain⟨y,hy⟩:=mnQ (nth 0 db j);have hys:y<Z:=by rw[<-hy];exact hsb.getD bB j
  obtain⟨x,hx⟩:=mnQ (nth 0 l m);have hxs:x<Z:=by rw[<-hx];exact hsl.getD bB m
  obtain⟨p,hp⟩:=nmQ (g*y);have hxy:p<=999999999*999999999:=by rw[hp];exact Zn (by grind[Z]) (by grind[Z])
  have hpi:(g:Int)*(y:Int)=(p:Int):=by rw[hp];simp
  have e1:((at_:Int)+(j:Int))=(m:Int):=aa;have hZ:Z=1000000000:=rfl;have hl1:=hb.1;have r3:=CW (sY (e:=e) (ex:=ex) (l:=l) hs) hl.symm (len:=len) (cap:=cap) (i:=(m:Int)) aa aa .i64;have r4:=Jr (sY (e:=e) (ex:=ex) (l:=l) hs) hl.symm hml;have r5:=Ra (sY (e:=e) (ex:=ex) (l:=l) hs) hl.symm hml;simp only[TD]at r5;rw[hx]at r4;rw[Int.toNat_natCast]at r3
  rw[jb,hy,<-hp,<-hm,hx]at hk;have hsm:(∀v,v<Z->aH Z (l.set m v)):=fun v hv=>hsl.set hv
  obtain⟨t,ht1⟩:=mnQ (c+p);rw[ht1]at hk;obtain⟨tm,htm⟩:=mnQ (t%Z);obtain⟨td,htd⟩:=mnQ (t/Z);rw[htm,htd]at hk;have ht2:t<1000000000000000000:=by simp only[hZ]at *;omega
  have htdZ:td<Z:=by simp only[hZ]at *;omega
  have htmZ:tm<Z:=by simp only[hZ]at *;omega
  have e3:((t:Int)%1000000000)=(tm:Int):=by simp only[hZ]at htm;omega
  have e4:((t:Int)/1000000000)=(td:Int):=by simp only[hZ]at htd;omega
  have main:∀(v:Nat)(w':Nat),v<Z->w'<=1->k (.exit 0) [I ((jb g at_ db r (j+1) td w' (l.set m v)).1:Nat)] (sP h s e ex (jb g at_ db r (j+1) td w' (l.set m v)).2) ->
    lp (fT (CX Y) h.length (.ref s e 0 len cap tot) t1 (U g) (I at_)) [] h0 [U td,I w',I (j+1:Nat)] (sP h s e ex (l.set m v)) k:=fun v w' hv hw' hk'=>
   ih (j+1) td w' (l.set m v) aa htdZ hw' (by grind) (hsm v hv) hk'
  clear ih;have e2:(c:Int)+(p:Int)=(t:Int):=aa;refine aj ?_;simp[fT,hl1,hjl];refine jD (l:=[U t]) (h:=sP h s e ex l) (fun q=>?_) ?_
  .by_cases g2:j<db.length
   .obtain⟨pb,q1,q2⟩:=hb.2 (sP h s e ex l) j ⟨l,rfl⟩ g2;rw[hy]at q2;simp(disch:=try exact ag)[g2,q1,q2,hpi,e2]
   .have hy0:nth 0 db j=0:=by simp[nth,List.getElem?_eq_none (show db.length<=j by omega)]
    rw[hy]at hy0;subst hy0;simp only[Nat.mul_zero]at hp;subst hp;obtain rfl:c=t:=aa;simp[g2]
  .simp(disch:=try exact ag)[e1,r3,r4,Zx,Zs,e3,e4];by_cases hxt:x<tm+w
   .rw[if_pos hxt]at hk;obtain⟨v,hv⟩:=mnQ (x+Z-(tm+w));rw[hv]at hk;have hvZ:v<Z:=aa;have e5:(x:Int)-tm-w<0:=aa;have e6:(x:Int)-tm-w+1000000000=v:=by simp only[hZ]at hv;omega
    have r6:=r5 v;refine jD (l:=[I v,I (1:Nat)]) (h:=sP h s e ex l) (fun q=>?_) ?_
    .simp(disch:=try exact ag)[e5,e6]
    .simp(disch:=try exact ag)[e1,r3,r6];simpa using main v 1 hvZ (Z7 _) hk
   .rw[if_neg hxt]at hk;obtain⟨v,hv⟩:=mnQ (x-(tm+w));rw[hv]at hk;have hvZ:v<Z:=aa;have e5:¬((x:Int)-tm-w<0):=aa;have e6:(x:Int)-tm-w=v:=aa;have r6:=r5 v;refine jD (l:=[I v,I (0:Nat)]) (h:=sP h s e ex l) (fun q=>?_) ?_
    .rw[e6]at e5 ⊢;simp[e5]
    .simp(disch:=try exact ag)[e1,r3,r6];simpa using main v 0 hvZ (Yl _) hk
theorem KE(hu:(h.all fun x=>bW h.length x.2)=true)(hs:s<h.length)(hb:RdS (fun t=>∃l,t=sP h s e ex l) t1 db)(hsb:aH Z db)(hg:g<Z)(hat:at_+db.length<tot)(ht:tot<1000000000000){l:LnQ}(hl:l.length=tot)(hsl:aH Z l):
  CI Y F.dC [.ref s e 0 tot tot tot,t1,U g,I at_] (sP h s e ex l) (B (decide (0<(jb g at_ db (db.length+1) 0 0 0 l).1))) (sP h s e ex (jb g at_ db (db.length+1) 0 0 0 l).2):=by refine wl ?_;simp[dC];refine lo (Q4 hs hb hsb hg hat ht rfl _ _ af (db.length+1) 0 0 0 l aa bB (Yl _) hl hsl ?_);simp;refine⟨(Z6 af).symm,?_,.inl ⟨rfl,rfl⟩⟩;exact Bp hu
def rF(at_:Nat)(db:LnQ):Nat->Nat->Nat->LnQ->LnQ
 |0,_,_,l=>l
 |r+1,k,c,l=>rF at_ db r (k+1) ((c+nth 0 l (at_+k)+nth 0 db k)/Z) (l.set (at_+k) ((c+nth 0 l (at_+k)+nth 0 db k)%Z))
theorem Sz(hs:s<h.length)(hb:RdS (fun t=>∃l,t=sP h s e ex l) t1 db)(hsb:aH Z db)(hat:at_+db.length<tot)(ht:tot<1000000000000){len:Nat}(hlen:tot=len)(k:KL)(h0:Hp)(hh:h0.length=h.length):
  ∀(r j c:Nat)(l:LnQ),j+r=db.length+1->c<Z->l.length=tot->aH Z l ->
  k (.exit 0) [] (sP h s e ex (rF at_ db r j c l)) ->
  lp (iX (CX Y) h.length (.ref s e 0 len cap tot) t1 (I at_)) [] h0 [U c,I j] (sP h s e ex l) k:=by
 intro r
 induction r with
 | zero=>
  intro j c l hj hc hl hsl hk;refine aj ?_;have g1:¬j<=db.length:=aa;have hl1:=hb.1;simp[iX,hl1,g1];exact hk
 | succ r ih=>
  intro j c l hj hc hl hsl hk;have hjl:j<=db.length:=aa;obtain⟨m,hm⟩:=nmQ (at_+j);have hml:m<l.length:=aa;obtain⟨y,hy⟩:=mnQ (nth 0 db j);have hys:y<Z:=by rw[<-hy];exact hsb.getD bB j
  obtain⟨x,hx⟩:=mnQ (nth 0 l m);have hxs:x<Z:=by rw[<-hx];exact hsl.getD bB m
  have e1:((at_:Int)+(j:Int))=(m:Int):=aa;have hZ:Z=1000000000:=rfl;have hl1:=hb.1;have r3:=CW (sY (e:=e) (ex:=ex) (l:=l) hs) hl.symm (len:=len) (cap:=cap) (i:=(m:Int)) aa aa .i64;have r4:=Jr (sY (e:=e) (ex:=ex) (l:=l) hs) hl.symm hml;have r5:=Ra (sY (e:=e) (ex:=ex) (l:=l) hs) hl.symm hml;simp only[TD]at r5;rw[hx]at r4;rw[Int.toNat_natCast]at r3
  rw[rF,hy,<-hm,hx]at hk;obtain⟨t,ht1⟩:=mnQ (c+x+y);rw[ht1]at hk;obtain⟨tm,htm⟩:=mnQ (t%Z);obtain⟨td,htd⟩:=mnQ (t/Z);rw[htm,htd]at hk;have ht2:t<3000000000:=by simp only[hZ]at *;omega
  have htdZ:td<Z:=by simp only[hZ]at *;omega
  have htmZ:tm<Z:=by simp only[hZ]at *;omega
  have e3:((t:Int)%1000000000)=(tm:Int):=by simp only[hZ]at htm;omega
  have e4:((t:Int)/1000000000)=(td:Int):=by simp only[hZ]at htd;omega
  have ih2:=ih (j+1) td (l.set m tm) aa htdZ (by grind) (hsl.set htmZ) hk;have r6:=r5 tm;clear ih;refine aj ?_;simp(disch:=try exact ag)[iX,hl1,hjl,e1,r3,r4];refine jD (l:=[U t]) (h:=sP h s e ex l) (fun q=>?_) ?_
  .by_cases g2:j<db.length
   .obtain⟨pb,q1,q2⟩:=hb.2 (sP h s e ex l) j ⟨l,rfl⟩ g2;rw[hy]at q2;have e2:(c:Int)+(x:Int)+(y:Int)=(t:Int):=aa;simp(disch:=try exact ag)[g2,q1,q2,e2]
   .have hy0:nth 0 db j=0:=by simp[nth,List.getElem?_eq_none (show db.length<=j by omega)]
    rw[hy]at hy0;subst hy0;have e2:(c:Int)+(x:Int)=(t:Int):=aa;simp[g2,e2]
  .simp(disch:=try exact ag)[e1,r3,r4,Zx,Zs,e3,e4,r6];trivial
theorem MZ(hu:(h.all fun x=>bW h.length x.2)=true)(hs:s<h.length)(hb:RdS (fun t=>∃l,t=sP h s e ex l) t1 db)(hsb:aH Z db)(hat:at_+db.length<tot)(ht:tot<1000000000000){l:LnQ}(hl:l.length=tot)(hsl:aH Z l):
  CI Y F.cL [.ref s e 0 tot tot tot,t1,I at_] (sP h s e ex l) (.tup []) (sP h s e ex (rF at_ db (db.length+1) 0 0 l)):=by refine wq ?_;simp[cL];refine lo (Sz hs hb hsb hat ht rfl _ _ af (db.length+1) 0 0 l aa bB hl hsl ?_);simp;refine⟨(Z6 af).symm,?_,.inl ⟨rfl,rfl⟩⟩;exact Bp hu
end Go.Vm
namespace Go.Big
section
variable{B:Nat}
theorem mE(l:LnQ)(i:Nat)(h:i<=l.length):val B l=val B (l.take i)+B^i*val B (l.drop i):=by have:=val_append (B:=B) (l.take i) (l.drop i);rw[Yi,Zr,Yv h]at this;exact this
theorem ZJ(l:LnQ)(z:Nat):val B (l++List.replicate z 0)=val B l:=by rw[val_append,oW];simp
theorem Kx(hB:0<B){l:LnQ}{n:Nat}(h:val B l<B^n):val B (l.drop n)=0:=by
 rcases Zi n l.length with h1|h1
 .have:=mE (B:=B) l n aa;rcases Zd (val B (l.drop n))with h2|h2
  .exact h2
  .have:=Zw (B^n) h2;omega
 .rw[Zb h1];rfl
variable{L lD lB x0 x1 x2 y0 y1 D v g r hi:Nat}
structure Gs(B L lD lB x0 x1 x2 y0 y1 D v hi:Nat):Prop where
 B0:0<B
 D_eq:D=lD+L*(x0+B*hi)
 v_eq:v=lB+L*(y0+B*y1)
 lDL:lD<L
 lBL:lB<L
 hx0:x0<B
 hy0:y0<B
 hy1:0<y1
 hD:D<B*v
theorem Gs.vpos(G:Gs B L lD lB x0 x1 x2 y0 y1 D v hi):L*B<=v:=by
 rw[G.v_eq]
 have h1:L*B<=L*(y0+B*y1):=Zw L (by
  have:=Zw B G.hy1;omega)
 omega
theorem Gs.pos(G:Gs B L lD lB x0 x1 x2 y0 y1 D v hi):0<v:=by have:=G.vpos;have h1:=G.lDL;have h2:0<L*B:=Yx aa G.B0;omega
theorem Gs.first(G:Gs B L lD lB x0 x1 x2 y0 y1 D v hi):D/v<=hi/y1:=by
 have hvp:=G.pos;rw[W8 G.hy1];have h1:D/v*v<=D:=Ws D v;generalize D/v=q at *
 have h2:q*(L*(B*y1))<=q*v:=Zw q (by
  rw[G.v_eq];have:=Zw L (Nat.le_add_left (B*y1) y0);omega)
 have h3:D<L*B*(hi+1):=by
  rw[G.D_eq];have:=G.lDL;have h4:=Zw L (show x0+1+B*hi<=B*(hi+1) by rw[Zq];have:=G.hx0;omega);rw[<-Nat.mul_assoc]at h4
  have h5:L*(x0+1+B*hi)=L+L*(x0+B*hi):=by
   rw[show x0+1+B*hi=1+(x0+B*hi) by omega,Zq];simp
  omega
 have h6:q*(L*(B*y1))=L*B*(q*y1):=by
  rw[<-Nat.mul_assoc L B y1,Y1]
 have h7:L*B*(q*y1)<L*B*(hi+1):=aa;have:=W5 h7;omega
theorem Gs.far(G:Gs B L lD lB x0 x1 x2 y0 y1 D v hi)(h:B<=g):D/v<g:=by have:=(Xt G.pos).2 G.hD;omega
theorem Gs.over(G:Gs B L lD lB x0 x1 x2 y0 y1 D v hi)(he:g*y1+r=hi)(h:r*B+x0<g*y0):D/v<g:=by
 rw[Xt G.pos]
 have h1:L*(x0+1+B*hi)<=g*v:=by
  rw[G.v_eq];have h2:g*(L*(y0+B*y1))<=g*(lB+L*(y0+B*y1)):=Zw g aa
  have h3:g*(L*(y0+B*y1))=L*(g*y0+B*(g*y1)):=by
   rw[Y1 g L,Zq,Y1 g B]
  have h4:L*(x0+1+B*hi)<=L*(g*y0+B*(g*y1)):=Zw L (by
   rw[<-he,Zq,Zt B r];omega)
  omega
 have h5:L*(x0+1+B*hi)=L+L*(x0+B*hi):=by
  rw[show x0+1+B*hi=1+(x0+B*hi) by omega,Zq];simp
 have:=G.lDL;rw[G.D_eq];omega
theorem Gs.near(G:Gs B L lD lB x0 x1 x2 y0 y1 D v hi)(he:g*y1+r=hi)(hg:g<B)(h:¬(r<B∧r*B+x0<g*y0)):g*v<D+v:=by
 have h0:g*(y0+B*y1)<=x0+B*hi:=by
  rw[Zq,Y1 g B,<-he,Zq];by_cases hr:r<B
  .have:¬r*B+x0<g*y0:=fun h'=>h ⟨hr,h'⟩
   rw[Zt r B]at this;omega
  .have h1:g*y0<=B*B:=Zn aa (by have:=G.hy0;omega);have h2:=Zw B (show B<=r by omega);omega
 have h1:=Zw L h0
 have h2:g*lB<L*B:=by
  have:=Zn (show g<=B-1 by omega) (show lB<=L by have:=G.lBL;omega);have hL:0<L:=by have:=G.lBL;omega
  have h3:(B-1)*L+L=L*B:=by
   have:=G.B0;obtain⟨b,rfl⟩:∃b,B=b+1:=⟨B-1,aa⟩;rw[Yd,Zt L,X5]
  omega
 have h3:g*v=g*lB+L*(g*(y0+B*y1)):=by
  rw[G.v_eq,Zq,Y1 g L]
 have h4:=G.vpos;have h5:=G.D_eq;omega
theorem Gs.le(G:Gs B L lD lB x0 x1 x2 y0 y1 D v hi)(h:g*v<D+v):g<=D/v+1:=by
 have h1:=Yf D v;have h2:=Y7 D G.pos;rcases Zi (D/v+1) g with h3|h3
 .have h4:=Zz v (show D/v+2<=g by omega);rw[Nat.add_mul,Zt (D/v) v]at h4;omega
 .exact h3
end
end Go.Big
namespace Go.Vm
open Go Go.Am Go.Big
variable{h1 h2:Hp}{a b j n2 w k cap N d:Nat}{va vb:V}{ol' al':LnQ}
theorem yV{l:LnQ}{m n v:Nat}(h:m≠n):nth 0 (l.set m v) n=nth 0 l n:=by simp[nth,List.getElem?_set_ne h]
structure Frm(l l':LnQ)(a b:Nat):Prop where
 len:l'.length=l.length
 same:∀m,m<a∨b<=m->nth 0 l' m=nth 0 l m
theorem Ee{g at_:Nat}(hg:g<Z){db:LnQ}(hsb:aH Z db):∀(r j c w:Nat)(l:LnQ),at_+j+r<=l.length->c<Z->w<=1->aH Z l->c+g*val Z (db.drop j)<Z^r ->
  Frm l (jb g at_ db r j c w l).2 (at_+j) (at_+j+r)∧aH Z (jb g at_ db r j c w l).2∧(jb g at_ db r j c w l).1<=1 ∧
  val Z (jb g at_ db r j c w l).2+Z^(at_+j)*(c+g*val Z (db.drop j)+w)=val Z l+Z^(at_+j+r)*(jb g at_ db r j c w l).1
 | 0,j,c,w,l,hl,hc,hw,hs,hT=>by
  have h0:c+g*val Z (db.drop j)=0:=by simp at hT;omega
  refine⟨⟨rfl,fun _ _=>rfl⟩,hs,hw,?_⟩;rw[h0,Zp];rfl
 | r+1,j,c,w,l,hl,hc,hw,hs,hT=>by
  obtain⟨m,hm⟩:=nmQ (at_+j);have hml:m<l.length:=aa;obtain⟨x,hx⟩:=mnQ (nth 0 l m);have hxs:x<Z:=by rw[<-hx];exact hs.getD bB m
  obtain⟨y,hy⟩:=mnQ (nth 0 db j);rw[jb,hy,<-hm,hx];have hvd:val Z (db.drop j)=y+Z*val Z (db.drop (j+1)):=by rw[qC,show db.getD j 0=y from hy]
  obtain⟨V,hV⟩:=mnQ (val Z (db.drop (j+1)));rw[hvd,hV]at hT ⊢;obtain⟨t,ht⟩:=mnQ (c+g*y);rw[ht];obtain⟨tm,htm⟩:=mnQ (t%Z);obtain⟨td,htd⟩:=mnQ (t/Z);have hdm:t=tm+Z*td:=by rw[<-htm,<-htd];exact(Xk t Z).symm
  have htmZ:tm<Z:=by rw[<-htm];exact Y7 _ bB
  rw[htm,htd]
  have hsum:c+g*(y+Z*V)=tm+Z*(td+g*V):=by
   rw[Zq,Y1 g Z,Zq];omega
  rw[hsum]at hT ⊢
  have hT2:td+g*V<Z^r:=by
   rw[Nat.pow_succ,Zt (Z^r)]at hT;have:Z*(td+g*V)<Z*Z^r:=aa;exact W5 this
  have htdZ:td<Z∨True:=.inr trivial
  have step:∀(v w':Nat),v<Z->w'<=1->v+(tm+w)=x+Z*w'->td<Z ->
    Frm l (jb g at_ db r (j+1) td w' (l.set m v)).2 (at_+j) (at_+j+(r+1))∧aH Z (jb g at_ db r (j+1) td w' (l.set m v)).2∧(jb g at_ db r (j+1) td w' (l.set m v)).1<=1 ∧
    val Z (jb g at_ db r (j+1) td w' (l.set m v)).2+Z^m*(tm+Z*(td+g*V)+w)=val Z l+Z^(m+(r+1))*(jb g at_ db r (j+1) td w' (l.set m v)).1:=by
   intro v w' hv hw' he htd2;obtain⟨⟨f1,f2⟩,i2,i3,i4⟩:=Ee hg hsb (g:=g) (at_:=at_) r (j+1) td w' (l.set m v) bK htd2 hw' (hs.set hv) (by rw[hV];exact hT2);refine⟨⟨by rw[f1];simp,fun n hn=>?_⟩,i2,i3,?_⟩
   .rw[f2 n aa,yV aa]
   .have hvs:=xC (B:=Z) l m v hml;rw[show l.getD m 0=x from hx]at hvs;rw[hV,show at_+(j+1)=m+1 by omega]at i4;rw[show m+(r+1)=m+1+r by omega];generalize val Z (jb g at_ db r (j+1) td w' (l.set m v)).2=R at *;generalize(jb g at_ db r (j+1) td w' (l.set m v)).1=W at *;generalize val Z (l.set m v)=R1 at *;generalize val Z l=R0 at *;generalize td+g*V=T at *
    rw[Nat.pow_succ Z m,Nat.mul_assoc (Z^m) Z (T+w')]at i4;generalize Z^m=P at *;have h1:P*v+P*(tm+w)=P*x+P*(Z*w'):=by rw[<-Zq,<-Zq,he]
    have h2:P*(Z*(T+w'))=P*(Z*T)+P*(Z*w'):=by rw[Zq Z,Zq]
    have h3:P*(tm+Z*T+w)=P*(tm+w)+P*(Z*T):=by rw[<-Zq];congr 1;omega
    omega
  have htd2:td<Z:=by
   have hy2:y<Z:=by rw[<-hy];exact hsb.getD bB j
   have:=Zn (show g<=999999999 by simp only[Z]at hg;omega) (show y<=999999999 by simp only[Z]at hy2;omega);simp only[Z]at *;omega
  rw[<-hm]at step;by_cases hlt:x<tm+w
  .simp only[if_pos hlt];exact step _ 1 aa (Z7 _) aa htd2
  .simp only[if_neg hlt];exact step _ 0 aa (Yl _) aa htd2
theorem FT{at_:Nat}{db:LnQ}(hsb:aH Z db):∀(r j c:Nat)(l:LnQ),at_+j+r<=l.length->c<=1->aH Z l ->
  Frm l (rF at_ db r j c l) (at_+j) (at_+j+r)∧aH Z (rF at_ db r j c l) ∧
  ∃ce,val Z (rF at_ db r j c l)+Z^(at_+j+r)*(ce+val Z (db.drop (j+r)))=val Z l+Z^(at_+j)*(c+val Z (db.drop j))
 |0,j,c,l,hl,hc,hs=>⟨⟨rfl,fun _ _=>rfl⟩,hs,c,rfl⟩
 | r+1,j,c,l,hl,hc,hs=>by
  obtain⟨m,hm⟩:=nmQ (at_+j);have hml:m<l.length:=aa;obtain⟨x,hx⟩:=mnQ (nth 0 l m);have hxs:x<Z:=by rw[<-hx];exact hs.getD bB m
  obtain⟨y,hy⟩:=mnQ (nth 0 db j);have hys:y<Z:=by rw[<-hy];exact hsb.getD bB j
  rw[rF,hy,<-hm,hx];have hvd:val Z (db.drop j)=y+Z*val Z (db.drop (j+1)):=by rw[qC,show db.getD j 0=y from hy]
  obtain⟨t,ht⟩:=mnQ (c+x+y);rw[ht];obtain⟨tm,htm⟩:=mnQ (t%Z);obtain⟨td,htd⟩:=mnQ (t/Z);have hdm:t=tm+Z*td:=by rw[<-htm,<-htd];exact(Xk t Z).symm
  have htmZ:tm<Z:=by rw[<-htm];exact Y7 _ bB
  have htd1:td<=1:=by simp only[Z]at *;omega
  rw[htm,htd];obtain⟨⟨f1,f2⟩,i2,ce,i4⟩:=FT hsb (at_:=at_) r (j+1) td (l.set m tm) bK htd1 (hs.set htmZ);refine⟨⟨by rw[f1];simp,fun n hn=>?_⟩,i2,ce,?_⟩
  .rw[f2 n aa,yV aa]
  .have hvs:=xC (B:=Z) l m tm hml;rw[show l.getD m 0=x from hx]at hvs;rw[show at_+(j+1)=m+1 by omega,show j+1+r=j+(r+1) by omega]at i4;rw[show m+(r+1)=m+1+r by omega,hvd];generalize val Z (rF at_ db r (j+1) td (l.set m tm))=R at *;generalize val Z (l.set m tm)=R1 at *;generalize val Z l=R0 at *;generalize val Z (db.drop (j+1))=V at *
   rw[Nat.pow_succ Z m,Nat.mul_assoc (Z^m) Z (td+V)]at i4;generalize Z^(m+1+r)*(ce+val Z (db.drop (j+(r+1))))=Q at *;generalize Z^m=P at *;have h1:P*tm+P*(Z*td)=P*x+P*(c+y):=by rw[<-Zq,<-Zq,<-hdm,<-ht];congr 1;omega
   have h2:P*(Z*(td+V))=P*(Z*td)+P*(Z*V):=by rw[Zq Z,Zq]
   have h3:P*(c+(y+Z*V))=P*(c+y)+P*(Z*V):=by rw[<-Zq];congr 1;omega
   omega
theorem Frm.take{l l':LnQ}{a b:Nat}(h:Frm l l' a b):l'.take a=l.take a:=by
 refine Wp (by simp[h.len]) fun i h1 h2=>?_
 simp only[Zr]at h1 h2;have:=h.same i (.inl aa);rw[aN _ _ _ aa,aN _ _ _ aa]at this;simpa using this
theorem Frm.drop{l l':LnQ}{a b:Nat}(h:Frm l l' a b):l'.drop b=l.drop b:=by
 refine Wp (by simp[h.len]) fun i h1 h2=>?_
 simp only[Yo]at h1 h2;have:=h.same (b+i) (.inr aa);rw[aN _ _ _ aa,aN _ _ _ aa]at this;simpa using this
theorem MC{al db:LnQ}{i g:Nat}(hsa:aH Z al)(hsb:aH Z db)(hi:i+db.length<al.length)(hg:g<Z)(hD:val Z (al.drop i)<Z*val Z db)(h1:g*val Z db<val Z (al.drop i)+val Z db)(h2:val Z (al.drop i)/val Z db<=g)
  {w:Nat} {l1 l2:LnQ} (hw:(jb g i db (db.length+1) 0 0 0 al).1=w) (hl1:(jb g i db (db.length+1) 0 0 0 al).2=l1) (hl2:rF i db (db.length+1) 0 0 l1=l2) :
  (l1.length=al.length∧aH Z l1) ∧
  (w=0->aH Z l1∧l1.length=al.length∧l1.take i=al.take i∧g=val Z (al.drop i)/val Z db∧val Z (l1.drop i)=val Z (al.drop i)%val Z db) ∧
  (0<w->aH Z l2∧l2.length=al.length∧l2.take i=al.take i∧0<g∧g-1=val Z (al.drop i)/val Z db∧val Z (l2.drop i)=val Z (al.drop i)%val Z db):=by
 have hvb:=jE (B:=Z) bB hsb
 have hvp:0<val Z db:=by
  rcases Zd (val Z db)with h|h
  .rw[h]at hD;simp at hD
  .exact h
 have hpow:Z^(db.length+1)=Z*Z^db.length:=by rw[Nat.pow_succ,Zt]
 have hDlt:val Z (al.drop i)<Z^(db.length+1):=by
  rw[hpow];exact Nat.lt_trans hD (Nat.mul_lt_mul_of_pos_left hvb bB)
 have htop:val Z (al.drop (i+(db.length+1)))=0:=by
  rw[<-List.drop_drop];exact Kx bB hDlt
 obtain ⟨f,s1,w1,e⟩:=Ee hg hsb (db.length+1) 0 0 0 al aa bB (Yl _) hsa (by
  rw[Zj,Zp,hpow];have a1:=Zw g (show val Z db<=Z^db.length by omega);have a2:=Yb hg (show 0<Z^db.length from Yj bB);omega) (at_:=i) (g:=g)
 rw[hw,hl1]at e;rw[hl1]at f s1;rw[hw]at w1;simp only[Nat.add_zero,Zj,Zp]at e f;have len1:=f.len
 have below:∀{l:LnQ},aH Z l->l.drop (i+(db.length+1))=al.drop (i+(db.length+1))->val Z (l.drop i)<Z^(db.length+1):=fun{l} hs he=>by
  have hz:=mE (B:=Z) (l.drop i) (min (db.length+1) (l.drop i).length) (Nat.min_le_right ..);by_cases hc:db.length+1<=(l.drop i).length
  .rw[Yv hc,List.drop_drop,he,htop,Nat.mul_zero,Nat.add_zero]at hz;rw[hz];have:=jE (B:=Z) bB ((hs.drop i).take (db.length+1));rw[Zr,Yv hc]at this;exact this
  .have:=jE (B:=Z) bB (hs.drop i);exact Z1 this (Z4 bB aa)
 have hsp:∀{l:LnQ},l.length=al.length->l.take i=al.take i->val Z l=val Z (al.take i)+Z^i*val Z (l.drop i):=fun{l} h h'=>by
  rw[<-h'];exact mE l i aa
 have hal:=mE (B:=Z) al i aa;have hdm:=Yf (val Z (al.drop i)) (val Z db);have hml:=Y7 (val Z (al.drop i)) hvp;have b1:=below s1 f.drop;rw[hsp len1 f.take,hal,Y6,Nat.mul_assoc (Z^i)]at e
 have e2:val Z (l1.drop i)+g*val Z db=val Z (al.drop i)+Z^(db.length+1)*w:=by
  have:Z^i*(val Z (l1.drop i)+g*val Z db)=Z^i*(val Z (al.drop i)+Z^(db.length+1)*w):=by rw[Zq,Zq];omega
  exact Xv (Yj bB) this
 obtain⟨D,hDe⟩:=mnQ (val Z (al.drop i));obtain⟨v,hve⟩:=mnQ (val Z db);refine⟨⟨len1,s1⟩,fun w0=>?_,fun wp=>?_⟩
 .subst w0;rw[Nat.mul_zero,Nat.add_zero]at e2
  have hq:g=val Z (al.drop i)/val Z db:=by
   refine Nat.le_antisymm ?_ h2;rw[W8 hvp];omega
  refine⟨s1,len1,f.take,hq,?_⟩;rw[<-hq]at hdm;rw[Zt]at hdm;omega
 .have hw1:w=1:=aa;subst hw1;obtain⟨f2,s2,ce,e3⟩:=FT hsb (at_:=i) (db.length+1) 0 0 l1 aa (Yl _) s1;rw[hl2]at f2 s2 e3;simp only[Nat.add_zero,Zj,Zp]at e3 f2;have hdn:db.drop (db.length+1)=[]:=Zb aa;rw[hdn,show val Z []=0 from rfl]at e3;simp only[Nat.add_zero]at e3
  have len2:l2.length=al.length:=by rw[f2.len,len1]
  have tk2:l2.take i=al.take i:=by rw[f2.take,f.take]
  have b2:=below s2 (by rw[f2.drop,f.drop]);rw[hsp len2 tk2,hsp len1 f.take,Y6,Nat.mul_assoc (Z^i)]at e3
  have e4:val Z (l2.drop i)+Z^(db.length+1)*ce=val Z (l1.drop i)+val Z db:=by
   have:Z^i*(val Z (l2.drop i)+Z^(db.length+1)*ce)=Z^i*(val Z (l1.drop i)+val Z db):=by rw[Zq,Zq];omega
   exact Xv (Yj bB) this
  have hgl:g*val Z db<=(val Z (al.drop i)/val Z db+1)*val Z db:=by
   rcases Zi (val Z (al.drop i)/val Z db+1) g with h3|h3
   .exfalso;have h4:=Zz (val Z db) (show val Z (al.drop i)/val Z db+2<=g by omega);rw[Nat.add_mul,Zt (val Z (al.drop i)/val Z db)]at h4;omega
   .exact Zz _ h3
  have hgp:0<g:=by
   rcases Zd g with h|h
   .subst h;omega
   .exact h
  have hgq:g=val Z (al.drop i)/val Z db+1:=by
   refine Nat.le_antisymm ?_ ?_
   .exact Xb hgl hvp
   .rw[Nat.succ_le_iff,Xt hvp];omega
  refine⟨s2,len2,tk2,hgp,aa,?_⟩;rw[hgq,Nat.add_mul,Xr,Zt (val Z (al.drop i)/val Z db)]at e2;generalize Z^(db.length+1)=P at *
  have hce:ce=1:=by
   rcases Zi ce 1 with h|h
   .have:ce=0:=aa;subst this;omega
   .rcases Zi ce 2 with h'|h'
    .omega
    .have:=Zw P h';omega
  subst hce;omega
def I6(o:LnQ):Hp:=[(1,.data 1 (o.map u6) true false),nnQ]
theorem zY(o:LnQ):(I6 o)[0]?=some (1,.data 1 (o.map u6) true false):=rfl
theorem UI(o o':LnQ):(I6 o).set 0 (1,.data 1 (o'.map u6) true false)=I6 o':=rfl
@[simp]theorem afI(o:LnQ):(I6 o).length=2:=rfl
theorem Cp{p:LnQ}(hsp:aH Z p)(hpl:p.length<1000000000000){n N:Nat}(hn:0<n)(hnZ:n<=Z)(hN:N=p.length)(k:KL)(h0:Hp)(hh:h0.length=2) :
  ∀(i:Nat)(o:LnQ)(r:Nat),i<=p.length->o.length=N->aH Z o->r<n->val Z (p.drop i)=n*val Z (o.drop i)+r ->
  (∀o' r',o'.length=N->aH Z o'->r'<n->val Z p=n*val Z o'+r'->k (.exit 0) [U (r':Nat)] (I6 o')) ->
  lp (iE (CX Y) (lst u6 p) (U n) (.ref 0 1 0 N N N)) [] h0 [U r,I ((i:Int)-1)] (I6 o) k
 | 0,o,r,hi,ho,hso,hr,hv,hk=>by
  refine aj ?_;simp[iE];exact hk o r ho hso hr (by simpa using hv)
 | i+1,o,r,hi,ho,hso,hr,hv,hk=>by
  obtain⟨x,hx⟩:=mnQ (nth 0 p i);have hxs:x<Z:=by rw[<-hx];exact hsp.getD bB i
  have e1:=fun h:Hp=>kv u6 p h (k:=.i64) (i:=(i:Int)) aa aa
  have e2:=fun h:Hp=>E5 p h (j:=i) aa
  rw[hx]at e2;have r3:=CW (zY o) ho.symm (len:=N) (cap:=N) (i:=(i:Int)) aa aa .i64;have r5:=Ra (zY o) ho.symm (j:=i) aa;simp only[UI]at r5;simp only[Int.toNat_natCast]at e1 r3;have e0:((i+1:Nat):Int)-1=(i:Int):=aa;have hZ:Z=1000000000:=rfl;obtain⟨t,ht⟩:=mnQ (r*Z+x);obtain⟨q,hq⟩:=mnQ (t/n)
  obtain⟨r2,hr2⟩:=mnQ (t%n);have hdm:n*q+r2=t:=by rw[<-hq,<-hr2];exact Yf t n
  have hr2n:r2<n:=by rw[<-hr2];exact Y7 _ hn
  have htn:t<Z*n:=by
   have:=Zz Z (show r+1<=n by omega);rw[Nat.add_mul,Zt n Z]at this;omega
  have hqZ:q<Z:=by rw[<-hq];exact Wl (by rw[Zt];exact htn)
  have htb:t<1000000000000000001:=by
   have:=Zw Z hnZ;simp only[hZ]at *;omega
  have hdr:(o.set i q).drop i=q::o.drop (i+1):=by
   rw[List.drop_set,if_neg aa,Nat.sub_self];rw[Z0 (show i<o.length by omega)];rfl
  have ih:=Cp hsp hpl hn hnZ hN k h0 hh i (o.set i q) r2 aa (by simpa using ho) (hso.set hqZ) hr2n (by
   rw[qC,show p.getD i 0=x from hx,hv,hdr];simp only[val];rw[Zq,Zq,Y1 n Z,Zt Z r];omega) hk
  have r6:=r5 q;have e3:(r:Int)*1000000000+(x:Int)=(t:Int):=by simp only[hZ]at ht;omega
  have e4:(t:Int)/(n:Int)=(q:Int):=by rw[<-hq];simp
  have e5:(t:Int)%(n:Int)=(r2:Int):=by rw[<-hr2];simp
  have hrb:r<1000000000:=by simp only[hZ]at hnZ;omega
  have hn0:¬((n:Int)=0):=aa;have hqb:(q:Int)<18446744073709551616:=by simp only[hZ]at hqZ;omega
  refine aj ?_;rw[e0];simp(disch:=try exact ag)[iE,e1,e2,e3,r3,hn0,Zx,Zs,e4,e5,r6,hh];simpa using ih
theorem G6(l:LnQ):∃z,l=iN l++List.replicate z 0:=by
 induction hn:l.length generalizing l with
 | zero=>
  have:l=[]:=Zf hn;subst this;exact⟨0,rfl⟩
 | succ n ih=>
  obtain⟨l,x,rfl⟩:∃l' x,l=l'++[x]:=⟨l.dropLast,l.getLast (by intro e;simp[e]at hn),(List.dropLast_concat_getLast _).symm⟩;by_cases hx:x=0
  .subst hx;rw[qW];obtain⟨z,hz⟩:=ih l (by simpa using hn);refine⟨z+1,?_⟩
   conv=>lhs;rw[hz]
   rw[List.append_assoc,List.replicate_succ']
  .rw[yG hx];exact⟨0,af⟩
theorem Bl{l:LnQ}:l.take (iN l).length=iN l:=by obtain⟨z,hz⟩:=G6 l;generalize iN l=t at *;subst hz;rw[Xy rfl]
theorem zK(h:Hp)(n:Int):bJ h (U n)=some (U n,h):=rfl
theorem aG{h:Hp}{a b:V}(ha:bJ h a=some (va,h1))(hb:bJ h1 b=some (vb,h2)):out (.tup [va,vb]) (.tup [a,b]) h:=
 ⟨h2,by simp only[bJ,aS,ha,hb]⟩
theorem jY{h h3:Hp}{a b c vc:V}(ha:bJ h a=some (va,h1))(hb:bJ h1 b=some (vb,h2))(hc:bJ h2 c=some (vc,h3)):out (.tup [va,vb,vc]) (.tup [a,b,c]) h:=
 ⟨h3,by simp only[bJ,aS,ha,hb,hc]⟩
theorem He{n:Nat}(ha:(dig Z a).length<100000000)(hn:0<n)(hnZ:n<=Z):CP Y F.cU [pcs a,U n] (.tup [pcs (a/n),U (a%n:Nat)]):=by
 refine vG ?_;obtain⟨p,hp⟩:=mnQ (dig Z a);have hsp:aH Z p:=by rw[<-hp];exact cJ ax a
 have hval:val Z p=a:=by rw[<-hp];exact iS ax a
 rw[pcs,hp];rw[hp]at ha;simp(disch:=try exact ag)[cU];have e2:[(1,Bk.data 1 (List.replicate p.length (D.int IntKind.u64 0)) true false),nnQ]=I6 (List.replicate p.length 0):=by simp[I6,u6]
 rw[e2];refine lo (Cp hsp aa hn hnZ rfl _ _ rfl p.length (List.replicate p.length 0) 0 (Z7 _) af (fun x hx=>by rw[List.mem_replicate]at hx;rw[hx.2];exact bB) hn (by rw[List.drop_length,Zb af];simp[val]) fun o r ho hs hr hv=>?_);simp only[iP];rw[hval]at hv
 have hq:val Z o=a/n:=by rw[hv,Nat.mul_add_div hn,Wr hr,Nat.add_zero]
 have hr2:r=a%n:=by rw[hv,Nat.mul_add_mod,Yk hr]
 have ht:iN (o.take p.length)=dig Z (a/n):=by rw[Z6 aa,<-hq,rR ax hs]
 have tr:=uu (h:=I6 o) rfl (zY o) ho.symm (len:=p.length) (cap:=p.length) (Z7 _) aa (Z7 _);rw[ht]at tr;refine pT tr ?_ af
 have htl:o.take (dig Z (a/n)).length=dig Z (a/n):=by
  have h2:iN o=dig Z (a/n):=by rw[<-hq,rR ax hs]
  rw[<-h2];exact Bl
 have sn:=wL (zY o) ho.symm (len:=(dig Z (a/n)).length) (cap:=p.length) (by rw[pN ax,<-hq,<-ho];exact jE bB hs) (Z7 _);rw[htl]at sn;have e6:((a:Int)%(n:Int))=((a%n:Nat):Int):=af;rw[hr2,e6];exact aG sn (zK _ _)
section
variable{H:Hp}{p7 p8 pa0 pb0 pb1:V}{n i:Nat}{L lD lB x0 x1 x2 y0 y1 D v hi:Nat}
theorem Oq(G:Gs Z L lD lB x0 x1 x2 y0 y1 D v hi)(hy1Z:y1<Z)(hhi:hi<Z*Z)(hn:2<=n)(hnb:n<Z)(hib:i<Z)
  (a1:ixV H 1 p7 (I ((i:Int)+(n:Int)-2))=some pa0) (a2:ld1 H pa0=some (U x0)) (b1:ixV H 1 p8 (I ((n:Int)-2))=some pb0) (b2:ld1 H pb0=some (U y0))
  (c1:ixV H 1 p8 (I ((n:Int)-1))=some pb1) (c2:ld1 H pb1=some (U y1)) (k:KL) (h0:Hp) (hh:h0.length=H.length) :
  ∀(N g r:Nat),g<=N->g*y1+r=hi->D/v<=g->(∀g':Nat,D/v<=g'->g'*v<D+v->g'<Z->k (.exit 4) [U g'] H) ->
  lp (bi (CX Y) p7 p8 (I n) (I i)) [] h0 [U g,U r] H k:=by
 intro N
 induction N with
 | zero=>
  intro g r hg0 he hq hk;have hZ:Z=1000000000:=rfl;simp only[hZ]at hhi hnb hib;have hg:g=0:=aa;have hr:r=hi:=by rw[hg]at he;omega
  have hnear:g*v<D+v:=by have:=G.pos;rw[hg,Wb];omega
  have hgZ:g<Z:=by rw[hg];decide
  have g0:¬(1000000000:Int)<=(g:Int):=aa;have p0:(g:Int)*(y0:Int)=0:=by rw[hg];simp
  have hx0:=G.hx0;simp only[hZ]at hx0;clear he;refine aj ?_;by_cases g1:(r:Int)<1000000000
  .have g3:¬(r:Int)*1000000000+x0<0:=aa;simp(disch:=try exact ag)[bi,a1,a2,b1,b2,g0,g1,p0,g3];exact hk g hq hnear hgZ
  .simp[bi,a1,a2,b1,b2,g0,g1];exact hk g hq hnear hgZ
 | succ N ih=>
  intro g r hgN he hq hk;rcases Zd g with hg0|hgp
  .exact ih g r aa he hq hk
  obtain⟨g,rfl⟩:∃g',g=g'+1:=⟨g-1,aa⟩;have hZ:Z=1000000000:=rfl;simp only[hZ]at hhi hnb hib;have hrb:r<=hi:=aa
  have hgb:g+1<=hi:=by
   have:=Zw (g+1) G.hy1;omega
  have he2:g*y1+(r+y1)=hi:=by rw[X5]at he;omega
  have hx0:=G.hx0;have hy0:=G.hy0;have go:D/v<=g->lp (bi (CX Y) p7 p8 (I n) (I i)) [] h0 [U g,U (r+y1:Nat)] H k:=fun hq2=>ih g (r+y1) aa he2 hq2 hk
  obtain⟨p,hp⟩:=nmQ ((g+1)*y0);have hpi:((g:Int)+1)*(y0:Int)=(p:Int):=by rw[hp];simp
  by_cases g1:(1000000000:Int)<=(g:Int)+1
  .have hq2:=G.far (g:=g+1) (by simp only[hZ];omega);have g1':=g1;have:=go aa;refine aj ?_;simp(disch:=try exact ag)[bi,g1',c1,c2,hh];simpa using this
  have g1':=g1;by_cases g2:(r:Int)<1000000000
  .have hpb:p<=1000000000*1000000000:=by rw[hp];exact Zn aa aa
   by_cases g3:(r:Int)*1000000000+x0<p
   .have hq2:=G.over he (by rw[<-hp];simp only[hZ];omega);have g3':=g3;have:=go aa;refine aj ?_;simp(disch:=try exact ag)[bi,a1,a2,b1,b2,g1',g2,hpi,g3',c1,c2,hh];simpa using this
   .have hn1:=G.near he (by simp only[hZ];omega) (by rw[<-hp];intro h;have:=h.2;simp only[hZ]at this;omega);have g3':=g3;refine aj ?_;simp(disch:=try exact ag)[bi,a1,a2,b1,b2,g1',g2,hpi,g3',c1,c2,hh];exact hk (g+1) hq hn1 (by simp only[hZ];omega)
  .have g2':=g2;have hn1:=G.near he (by simp only[hZ];omega) (fun h=>by have:=h.1;simp only[hZ]at this;omega);refine aj ?_;simp[bi,a1,a2,b1,b2,g1',g2',c1,c2,hh];exact hk (g+1) hq hn1 (by simp only[hZ];omega)
end
theorem Ht{clr:LnQ}:∀(i:Nat)(h0 h:Hp),h.length=h0.length->(∀j,dw clr (i+j)=false->∀x,h[j]?=some x->∃b,h0[j]?=some (x.1,b)∧x.2=.none)->au clr i h0 h=h
 | _,[],h,hl,_=>by
  have:h=[]:=Zf (by simpa using hl);subst this;rfl
 |i,x0::h0,[],hl,_=>by simp at hl
 | i,x0::h0,x::h,hl,hs=>by
  rw[vi,Ht (i+1) h0 h (by simpa using hl) (fun j hj y hy=>hs (j+1) (by rw[show i+(j+1)=i+1+j by omega];exact hj) y hy)];by_cases hc:dw clr i=true
  .rw[if_pos hc]
  .rw[if_neg hc];obtain⟨b,h1,h2⟩:=hs 0 (by simpa using hc) x rfl;simp only[List.getElem?_cons_zero,Z9]at h1;rw[h1];simp only;rw[<-h2]
theorem I9{clr:LnQ}:∀(i:Nat)(h:Hp),(∀x∈h,offB clr x.2=true)->qk clr i h=true
 |_,[],_=>rfl
 | i,x::h,hs=>by
  rw[jm,hs x af,I9 (i+1) h fun y hy=>hs y (by simp[hy])];simp
def dH(g:Hp)(sa:Nat)(exa:Bool)(al ol:LnQ):Hp:=sP (sP g 4 1 true ol) sa 1 exa al
structure DvH(g:Hp)(sa:Nat)(bl:LnQ):Prop where
 len:g.length=9
 sa:sa<2
 b:g[2]?=some (1,.data 1 (bl.map u6) true false)
 c5:g[5]?=some nnQ
 c6:g[6]?=some nnQ
 off:∀x∈g,offB [5,6] x.2=true
 und:(g.all fun x=>bW 9 x.2)=true
variable{g:Hp}{sa:Nat}{exa:Bool}{al ol bl:LnQ}
theorem OG(G:DvH g sa bl):(dH g sa exa al ol).length=9:=by simp[dH,G.len]
theorem aew(G:DvH g sa bl):(dH g sa exa al ol)[sa]?=some (1,.data 1 (al.map u6) exa false):=sY (by have:=G.sa;simp[G.len];omega)
theorem aev(G:DvH g sa bl):(dH g sa exa al ol)[2]?=some (1,.data 1 (bl.map u6) true false):=by have:=G.sa;rw[dH,sP,List.getElem?_set_ne aa,sP,List.getElem?_set_ne aa,G.b]
theorem aeu(G:DvH g sa bl):(dH g sa exa al ol)[4]?=some (1,.data 1 (ol.map u6) true false):=by have:=G.sa;rw[dH,sP,List.getElem?_set_ne aa];exact sY (by rw[G.len];decide)
theorem agk(hj:j=5∨j=6)(G:DvH g sa bl):(dH g sa exa al ol)[j]?=some nnQ:=by
 have:=G.sa;rw[dH,sP,List.getElem?_set_ne aa,sP,List.getElem?_set_ne aa];rcases hj with rfl|rfl
 .exact G.c5
 .exact G.c6
theorem abk(G:DvH g sa bl):(dH g sa exa al ol).set 4 (1,.data 1 (ol'.map u6) true false)=dH g sa exa al ol':=by have:=G.sa;rw[dH,sP,List.set_comm _ _ aa];simp[dH,sP]
theorem WV(G:DvH g sa bl):∀x∈dH g sa exa al ol,offB [5,6] x.2=true:=by
 intro x hx;rcases Yq hx with h|h
 .rcases Yq h with h|h
  .exact G.off x h
  .rw[h];rfl
 .rw[h];rfl
theorem MF(G:DvH g sa bl){ex':Bool}:au [5,6] 0 (dH g sa ex' al' ol') (dH g sa exa al ol)=dH g sa exa al ol:=by
 refine Ht 0 _ _ (by rw[OG G,OG G]) fun j hj x hx=>?_
 have hj2:j=5∨j=6:=by
  simp only[Zp,vq,BE,Y4,beq_lit]at hj;by_cases h5:j=5
  .exact .inl h5
  .by_cases h6:j=6
   .exact .inr h6
   .exfalso;simp[Ne.symm h5,Ne.symm h6]at hj
 rw[agk hj2 G]at hx;cases hx;exact⟨.none,agk hj2 G,rfl⟩
theorem agj(G:DvH g sa bl){n:Nat}(hbl:bl.length=n+1):RdS (fun t=>∃l,t=sP (sP g 4 1 true ol) sa 1 exa l) (.ref 2 1 0 n (n+1) (n+1)) (bl.take n):=by
 have e1:(bl.take n).length=n:=by simp;omega
 refine⟨by rw[e1];rfl,?_⟩;rintro t i ⟨l,rfl⟩ hi;have hb:=aev (exa:=exa) (al:=l) (ol:=ol) G;refine⟨.ptr 2 1 i (n+1),?_,?_⟩
 .have:=CW hb hbl.symm (len:=n) (cap:=n+1) (i:=(i:Int)) aa aa .i64
  rwa [Int.toNat_natCast]at this
 .rw[ES aa];exact Jr hb hbl.symm aa
theorem WH{l:LnQ}{n:Nat}(h:l.length=n+2):l.drop n=[nth 0 l n,nth 0 l (n+1)]:=by rw[Z0 aa,Z0 aa,Zb aa,aN _ _ _ aa,aN _ _ _ aa]
theorem af6{al db:LnQ}{i:Nat}(hsa:aH Z al)(hsb:aH Z db)(hdl:db.length=n2+2)(hi:i+db.length<al.length)(hy:0<nth 0 db (n2+1))(hD:val Z (al.drop i)<Z*val Z db):
  Gs Z (Z^n2) (val Z ((al.drop i).take n2)) (val Z (db.take n2)) (nth 0 al (i+n2)) (nth 0 al (i+n2+1)) (nth 0 al (i+n2+2)) (nth 0 db n2) (nth 0 db (n2+1)) (val Z (al.drop i)) (val Z db) (nth 0 al (i+n2+2)*Z+nth 0 al (i+n2+1)):=by
 have hvb:=jE (B:=Z) bB hsb
 have hDlt:val Z (al.drop i)<Z^(n2+3):=by
  rw[Nat.pow_succ,Zt (Z^(n2+2)),<-hdl];exact Nat.lt_trans hD (Nat.mul_lt_mul_of_pos_left hvb bB)
 have htop:val Z (al.drop (i+n2+3))=0:=by
  rw[show i+n2+3=i+(n2+3) by omega,<-List.drop_drop];exact Kx bB hDlt
 have e1:=mE (B:=Z) (al.drop i) n2 (by grind);rw[List.drop_drop,qC al (i+n2),qC al (i+n2+1),qC al (i+n2+1+1),htop,Nat.mul_zero]at e1;simp only[Nat.add_zero]at e1;have e2:=mE (B:=Z) db n2 aa;rw[WH hdl]at e2;have l1:=jE (B:=Z) bB ((hsa.drop i).take n2);have l2:=jE (B:=Z) bB (hsb.take n2)
 rw[Zr,Yv (by grind)]at l1;rw[Zr,Yv aa]at l2;refine⟨bB,?_,?_,l1,l2,hsa.getD bB _,hsb.getD bB _,hy,hD⟩
 .rw[e1]
  show _=val Z ((al.drop i).take n2)+Z^n2*(al.getD (i+n2) 0+Z*(al.getD (i+n2+2) 0*Z+al.getD (i+n2+1) 0))
  grind
 trivial
variable{g:Hp}{sa:Nat}{exa:Bool}{bl db:LnQ}{n M m A:Nat}
theorem MD(G:DvH g sa bl)(hdb:bl.take n=db)(hbl:bl.length=n+1)(hsb:aH Z db)(hn:2<=n)(hnb:n<Z)(hM:M=m+n)(hMb:M<100000000)(hy:0<nth 0 db (n-1))(al0 ol0:LnQ)(k:KL) :
  ∀(i:Nat)(al ol:LnQ),i<=m->al.length=M->ol.length=m->aH Z al->aH Z ol->val Z (al.drop i)<val Z db->val Z al+val Z db*val Z ol=A->(∀j,j<i->nth 0 ol j=0) ->
  (∀al' ol',al'.length=M->ol'.length=m->aH Z al'->aH Z ol'->val Z al'<val Z db->val Z al'+val Z db*val Z ol'=A->k (.exit 2) [] (dH g sa exa al' ol')) ->
  lp (dt (CX Y) (.ref sa 1 0 M M M) (.ref 2 1 0 n (n+1) (n+1)) (I n) (.ref 4 1 0 m m m)) [5,6] (dH g sa exa al0 ol0) [I ((i:Int)-1)] (dH g sa exa al ol) k
 | 0,al,ol,hi,hal,hol,hsa,hso,hD,hA,hz,hk=>by
  refine aj ?_;simp[dt]
  grind
 | i+1,al,ol,hi,hal,hol,hsa,hso,hD,hA,hz,hk=>by
  have hdl:db.length=n:=by rw[<-hdb];simp;omega
  obtain⟨n2,hn2⟩:∃n2,n=n2+2:=⟨n-2,aa⟩;have hZ:Z=1000000000:=rfl
  have hD2:val Z (al.drop i)<Z*val Z db:=by
   rw[qC];have h1:=hsa.getD bB i;have h2:=Zw Z hD;rw[Nat.mul_succ]at h2;omega
  have Gq:=af6 (i:=i) hsa hsb (n2:=n2) aa aa (by rw[show n2+1=n-1 by omega];exact hy) hD2;have e0:((i+1:Nat):Int)-1=(i:Int):=aa;obtain⟨x0,hx0⟩:=mnQ (nth 0 al (i+n2));obtain⟨x1,hx1⟩:=mnQ (nth 0 al (i+n2+1));obtain⟨x2,hx2⟩:=mnQ (nth 0 al (i+n2+2));obtain⟨y0,hy0⟩:=mnQ (nth 0 db n2);obtain⟨y1,hy1⟩:=mnQ (nth 0 db (n2+1))
  have hx1Z:x1<Z:=by rw[<-hx1];exact hsa.getD bB _
  have hx2Z:x2<Z:=by rw[<-hx2];exact hsa.getD bB _
  have hy1Z:y1<Z:=by rw[<-hy1];exact hsb.getD bB _
  rw[hx0,hx1,hx2,hy0,hy1]at Gq;obtain⟨hi_,hhi⟩:=mnQ (x2*Z+x1);rw[hhi]at Gq
  have hhib:hi_<Z*Z:=by
   have:=Zz Z (show x2+1<=Z by omega);rw[Nat.add_mul]at this;omega
  have nb:∀j,j<n->nth 0 bl j=nth 0 db j:=fun j hj=>by rw[<-hdb,ES hj]
  have rA:=fun(j:Nat)(hj:j<M)=>CW (aew (exa:=exa) (al:=al) (ol:=ol) G) hal.symm (len:=M) (cap:=M) (i:=(j:Int)) aa aa .i64
  have lA:=fun(j:Nat)(hj:j<M)=>Jr (aew (exa:=exa) (al:=al) (ol:=ol) G) hal.symm (j:=j) aa
  have rB:=fun(j:Nat)(hj:j<n)=>CW (aev (exa:=exa) (al:=al) (ol:=ol) G) hbl.symm (len:=n) (cap:=n+1) (i:=(j:Int)) aa aa .i64
  have lB:=fun(j:Nat)(hj:j<n)=>Jr (aev (exa:=exa) (al:=al) (ol:=ol) G) hbl.symm (j:=j) aa
  simp only[Int.toNat_natCast]at rA rB;have a0:=rA (i+n2) aa;have a0l:=lA (i+n2) aa;have a1:=rA (i+n2+1) aa;have a1l:=lA (i+n2+1) aa;have a2:=rA (i+n2+2) aa;have a2l:=lA (i+n2+2) aa;have b0:=rB n2 aa;have b0l:=lB n2 aa;have b1:=rB (n2+1) aa;have b1l:=lB (n2+1) aa;rw[hx0]at a0l;rw[hx1]at a1l;rw[hx2]at a2l
  rw[nb _ aa,hy0]at b0l;rw[nb _ aa,hy1]at b1l;have s0:((i+n2:Nat):Int)=(i:Int)+(n:Int)-2:=aa;have s1:((i+n2+1:Nat):Int)=(i:Int)+(n:Int)-1:=aa;have s2:((i+n2+2:Nat):Int)=(i:Int)+(n:Int):=aa;have t0:((n2:Nat):Int)=(n:Int)-2:=aa;have t1:((n2+1:Nat):Int)=(n:Int)-1:=aa;rw[s0]at a0;rw[s1]at a1;rw[s2]at a2;rw[t0]at b0;rw[t1]at b1
  have hy1p:0<y1:=Gq.hy1;have e3:(x2:Int)*1000000000+(x1:Int)=(hi_:Int):=by simp only[hZ]at hhi;omega
  obtain⟨q0,hq0⟩:=mnQ (hi_/y1);obtain⟨r0,hr0⟩:=mnQ (hi_%y1);have e4:(hi_:Int)/(y1:Int)=(q0:Int):=by rw[<-hq0];simp
  have e5:(hi_:Int)%(y1:Int)=(r0:Int):=by rw[<-hr0];simp
  have hdm:q0*y1+r0=hi_:=by rw[<-hq0,<-hr0,Zt];exact Yf hi_ y1
  have hq0b:q0<=hi_:=by rw[<-hq0];exact Yu ..
  have hn0:¬((y1:Int)=0):=aa;have hhib2:hi_<1000000000000000000:=by simp only[hZ]at hhib;omega
  have hx2b:x2<1000000000:=by simp only[hZ]at hx2Z;omega
  have hx1b:x1<1000000000:=by simp only[hZ]at hx1Z;omega
  have hnb2:n<1000000000:=by simp only[hZ]at hnb;omega
  have fst:=Gq.first
  rw[hq0]at fst;refine aj ?_;rw[e0];simp(disch:=try exact ag)[dt,a1,a1l,a2,a2l,b1,b1l,e3,hn0,Zx,Zs,e4,e5];refine lo (Oq Gq hy1Z hhib hn hnb aa a0 a0l b0 b0l b1 b1l _ _ rfl q0 q0 r0 (Z7 _) hdm fst fun g' hg1 hg2 hg3=>?_);simp only[iP]
  have hl9:(sP g 4 1 true ol).length=9:=by simp[G.len]
  have hu:((sP g 4 1 true ol).all fun x=>bW (sP g 4 1 true ol).length x.2)=true:=by rw[hl9];exact Bp G.und
  have hsa2:sa<(sP g 4 1 true ol).length:=by rw[hl9];have:=G.sa;omega
  have rd:=agj (exa:=exa) (ol:=ol) G hbl;rw[hdb]at rd;obtain⟨w,hw⟩:=mnQ ((jb g' i db (db.length+1) 0 0 0 al).1);obtain⟨l1,hl1⟩:=mnQ ((jb g' i db (db.length+1) 0 0 0 al).2);obtain⟨l2,hl2⟩:=mnQ (rF i db (db.length+1) 0 0 l1);obtain⟨⟨k1,k2⟩,k3,k4⟩:=MC (i:=i) hsa hsb aa hg3 hD2 hg2 hg1 hw hl1 hl2
  have tk:=KE (at_:=i) (g:=g') (tot:=M) hu hsa2 rd hsb hg3 aa aa hal hsa;rw[hw,hl1]at tk;have bk:=MZ (at_:=i) (tot:=M) (l:=l1) hu hsa2 rd hsb aa aa aa k2;rw[hl2]at bk;have hvs:=fun q=>xC (B:=Z) ol i q aa
  have hz0:ol.getD i 0=0:=hz i aa
  have go:∀(q:Nat)(l:LnQ),aH Z l->l.length=al.length->l.take i=al.take i->q=val Z (al.drop i)/val Z db->val Z (l.drop i)=val Z (al.drop i)%val Z db ->
    lp (dt (CX Y) (.ref sa 1 0 M M M) (.ref 2 1 0 n (n+1) (n+1)) (I n) (.ref 4 1 0 m m m)) [5,6] (dH g sa exa al0 ol0) [I ((i:Int)-1)] (dH g sa exa l (ol.set i q)) k:=by
   intro q l c1 c2 c3 c4 c5;have hvp:=Gq.pos;have hqZ:q<Z:=by rw[c4];exact(Xt hvp).2 hD2
   refine MD G hdb hbl hsb hn hnb hM hMb hy al0 ol0 k i l (ol.set i q) aa aa (by grind) c1 (hso.set hqZ) (by rw[c5];exact Y7 _ hvp) ?_ (fun j hj=>by rw[yV aa];exact hz j aa) hk;have h1:=hvs q;rw[hz0,Nat.mul_zero,Nat.add_zero]at h1;have h2:=mE (B:=Z) l i aa;have h3:=mE (B:=Z) al i aa
   have h4:=Yf (val Z (al.drop i)) (val Z db);rw[<-c4,<-c5]at h4;rw[c3]at h2;rw[h1,h2,<-hA,h3,<-h4,Zq,Zq,Y1 (val Z db) (Z^i)];omega
  clear hk hA hz;have r4:=fun l=>CW (aeu (exa:=exa) (al:=l) (ol:=ol) G) hol.symm (len:=m) (cap:=m) (i:=(i:Int)) aa aa .i64
  have r5:=fun l=>Ra (aeu (exa:=exa) (al:=l) (ol:=ol) G) hol.symm (j:=i) aa
  simp only[abk G,Int.toNat_natCast]at r4 r5;refine pT tk ?_ af;rw[show sP (sP g 4 1 true ol) sa 1 exa l1=dH g sa exa l1 ol from rfl];rcases Zd w with w0|wp
  .obtain⟨d1,d2,d3,d4,d5⟩:=k3 w0;have gg:=go g' l1 d1 d2 d3 d4 d5;have w1:¬0<w:=aa;have r6:=r5 l1 g';have r7:=r4 l1;simp only[jn];simp(disch:=try exact ag)[w1,r7,r6];refine⟨?_,?_⟩
   .rw[clean,I9 0 _ (WV G)];rfl
   .rw[MF G];exact gg
  .obtain⟨d1,d2,d3,dg,d4,d5⟩:=k4 wp;have gg:=go (g'-1) l2 d1 d2 d3 d4 d5;obtain⟨g2,hg2'⟩:=mnQ (g'-1);rw[hg2']at gg;have e6:(g':Int)-1=(g2:Int):=aa;have hg2Z:(g2:Int)<18446744073709551616:=by simp only[hZ]at hg3;omega
   have r6:=r5 l2 g2;have r7:=r4 l2;simp only[jn];simp(disch:=try exact ag)[wp,e6];refine jC (pT bk ?_ af);rw[show sP (sP g 4 1 true ol) sa 1 exa l2=dH g sa exa l2 ol from rfl];simp(disch:=try exact ag)[r7,r6];refine⟨?_,?_⟩
   .rw[clean,I9 0 _ (WV G)];rfl
   .rw[MF G];exact gg
theorem BQ{n:Nat}(h:n<Z^w):bg (w+1) n=bg w n++[0]:=by
 have h1:aH Z (bg w n++[0]):=(vA w n).snoc bB
 grind[DK,Kn,xr,Zm,cT]
theorem V0{n:Nat}(h:n<Z^w):iN (bg w n)=dig Z n:=by rw[<-rR ax (vA w n),xr w n h]
theorem nK{n:Nat}(h:n<Z^w):(bg w n).take (dig Z n).length=dig Z n:=by grind[V0,Bl]
theorem xl(n:Nat):n<Z^(dig Z n).length:=(pN ax).1 (Z7 _)
theorem iL{n:Nat}(h:n<Z^k):(dig Z n).length<=k:=(pN ax).2 h
theorem VA{n:Nat}(h:Z^k<=n):k<(dig Z n).length:=by grind[pN,ax]
theorem WQ{n:Nat}(h:0<n):Z^((dig Z n).length-1)<=n:=by
 rcases Zi n (Z^((dig Z n).length-1))with h1|h1
 .have:=iL h1
  grind[Z]
 omega
theorem Pd{n:Nat}(h:(dig Z n).length=k+1):Z^k*nth 0 (dig Z n) k<=n∧n<Z^k*(nth 0 (dig Z n) k+1)∧0<nth 0 (dig Z n) k:=by
 have e:=mE (B:=Z) (dig Z n) k aa;rw[iS ax,Z0 aa,Zb aa]at e;have hn:nth 0 (dig Z n) k=(dig Z n)[k]:=aN _ _ _ aa;rw[<-hn]at e;simp only[val,Nat.mul_zero,Nat.add_zero]at e;have l:=jE (B:=Z) bB ((cJ ax n).take k);rw[Zr,Yv aa]at l
 refine⟨aa,by grind,?_⟩;rcases Zd (nth 0 (dig Z n) k)with h0|h0
 .rw[h0,Nat.mul_zero,Nat.add_zero]at e;have:=iL (n:=n) (k:=k) aa;omega
 omega
theorem Si{q y f:Nat}(h:(dig Z q).length=k+1)(hy:nth 0 (dig Z q) k=y)(hf:Z/(y+1)=f)(hk:1<=k):0<f∧f<Z∧q*f<Z^(k+1):=by
 obtain⟨h1,h2,h3⟩:=Pd h;rw[hy]at h1 h2 h3;have hyZ:y<Z:=by rw[<-hy];exact(cJ ax q).getD bB k
 have hf0:0<f:=by rw[<-hf];exact V4 aa aa
 have hfy:f*(y+1)<=Z:=by rw[<-hf];exact Ws ..
 refine⟨hf0,?_,?_⟩
 .have:=Zw f (show 2<=y+1 by omega);omega
 .have h4:q*f<Z^k*(y+1)*f:=Yb h2 hf0;have h5:Z^k*(y+1)*f=Z^k*(f*(y+1)):=by rw[Nat.mul_assoc,Zt (y+1)]
  have h6:=Zw (Z^k) hfy;rw[Nat.pow_succ];omega
theorem KD{l:LnQ}(h:aH Z l):l.take (dig Z (val Z l)).length=dig Z (val Z l):=by grind[rR,ax,Bl]
theorem aab{α:Type}{l:List α}{i:Nat}{x:α}(h:l[i]?=some x):l.set i x=l:=by
 refine X8 fun j=>?_
 by_cases hj:j=i
 .grind
 .rw[List.getElem?_set_ne (Ne.symm hj)]
variable{P Q n p f M W9 sa:Nat}{exa:Bool}{hA:Hp}
theorem CE(hn:(dig Z Q).length=n)(h2:2<=n)(hp:(dig Z P).length=p)(hnp:n<=p)(hpb:p<10000000)(f0:0<f)(fZ:f<Z)(fQ:Q*f<Z^n)(hVe:W9=P*f)(hM:(dig Z W9).length+1=M)(hMp:p<M)
  (A9:hA.length=9) (Au:(hA.all fun x=>bW 9 x.2)=true) (Ao:∀x∈hA,offB [5,6] x.2=true) (A2:hA[2]?=some nnQ) (A4:hA[4]?=some nnQ) (A5:hA[5]?=some nnQ) (A6:hA[6]?=some nnQ) (sa2:sa<2) (Aa:hA[sa]?=some (1,.data 1 ((bg M W9).map u6) exa false)) :
  cai (CX Y).i hA (V.fn F.cj [] []) [lst u6 (dig Z Q),V.d (D.int IntKind.u64 ↑f)] 2
      fun v10 h=>
      bnd (bj v10) fun v11=>
       lp (kA (CX Y) (lst u6 (dig Z P))) [] h [.ref sa 1 0 M M M] h
        (exK
         [(Exit.exit 0,fun l12 h=>
           bnd (bj (ge l12 0)) fun v13=>
            bnd (biI BinOp.sub v13 v11) fun v14=>
             mkS 4 8 [D.int IntKind.u64 0] h v14 v14 fun v15 h=>
              bnd (bj (ge l12 0)) fun v16=>
               bnd (biI BinOp.sub v16 v11) fun v17=>
                bnd (biI BinOp.sub v17 (V.d (D.int IntKind.i64 1))) fun v18=>
                 lp (dt (CX Y) (ge l12 0) v10 v11 v15) [5,6] h [v18] h
                  (exK
                   [(Exit.exit 2,fun l19 h=>
                     cai (CX Y).i h (V.fn F.ay [] []) [ge l12 0] 7 fun v20 h=>
                      cal (CX Y).p h (V.fn F.cU [] [])
                       [v20,V.d (D.int IntKind.u64 ↑f)] fun v21 h=>
                       ext v21 0 fun v22=>
                        ext v21 1 fun v23=>
                         cai (CX Y).i h (V.fn F.ay [] []) [v15] 8 fun v24 h=>
                          out (V.tup [lst u6 (dig Z (P/Q)),lst u6 (dig Z (P%Q))])
                           (V.tup [v24,v22]) h)]))]):=by
 have hQ1:Z^(n-1)<=Q:=by
  rw[<-hn];refine WQ ?_;rcases Zd Q with h|h
  .subst h;rw[show(dig Z 0).length=0 from rfl]at hn;omega
  .exact h
 have hQf:(dig Z (Q*f)).length=n:=by
  have h1:=iL fQ;have h3:=VA (n:=Q*f) (k:=n-1) (Zu hQ1 (Y5 Q f0));omega
 have hQfs:Q*f<Z^(n+1):=Z1 fQ (Z4 bB aa);have sc:=EA (h:=hA) (t0:=lst u6 (dig Z Q)) (da:=dig Z Q) (f:=f) (N:=n+1) (by grind) fZ f0 (Nc _ _) (cJ ax Q) aa aa;rw[iS ax,hQf]at sc;refine fe (e:=0) (b:=.none) sc A2 ?_;have hbl:(bg (n+1) (Q*f)).length=n+1:=cT ..
 have hdb:(bg (n+1) (Q*f)).take n=dig Z (Q*f):=by
  have:=nK hQfs
  rwa [hQf]at this
 obtain⟨bl,hble⟩:=mnQ (bg (n+1) (Q*f));rw[hble]at hbl hdb;rw[hble,List.length_map,hbl];obtain⟨g,hg⟩:=mnQ (hA.set 2 (0+1,.data 1 (bl.map u6) true false));rw[hg]
 have G:DvH g sa bl:=by
  rw[<-hg];refine⟨by grind,sa2,by grind,by grind,by grind,fun x hx=>?_,?_⟩
  .rcases Yq hx with h|h
   .grind
   .rw[h];rfl
  .exact Bp (s:=2) (e:=1) Au
 have g4:g[4]?=some nnQ:=by rw[<-hg];simp[A4]
 have ga:g[sa]?=some (1,.data 1 ((bg M W9).map u6) exa false):=by rw[<-hg,List.getElem?_set_ne aa];exact Aa
 have hVp:p<=(dig Z W9).length:=aa
 have hMp1:M<=p+2:=by
  have:W9<Z^(p+1):=by
   rw[hVe,Nat.pow_succ];have:=xl P;rw[hp]at this;exact Nat.mul_lt_mul_of_lt_of_lt this fZ
  have:=iL this;omega
 obtain⟨m,hm⟩:∃m,M=m+n:=⟨M-n,aa⟩;have lP:bj (lst u6 (dig Z P))=some (I (dig Z P).length):=rfl;have c1:¬((M:Int)<=((dig Z P).length:Int)):=aa;have c2:(M:Int)-(n:Int)=(m:Int):=aa;simp;refine lo (aj ?_);simp(disch:=try exact ag)[kA,lP,c1,c2,g4]
 have hd:g.set 4 (1,Bk.data 1 (List.replicate m (D.int IntKind.u64 0)) true false)=dH g sa exa (bg M W9) (List.replicate m 0):=by
  have e1:(List.replicate m (D.int IntKind.u64 0))=(List.replicate m 0).map u6:=by simp[u6]
  have e2:(sP g 4 1 true (List.replicate m 0))[sa]?=some (1,.data 1 ((bg M W9).map u6) exa false):=by
   rw[sP,List.getElem?_set_ne aa];exact ga
  show _=(sP g 4 1 true (List.replicate m 0)).set sa (1,.data 1 ((bg M W9).map u6) exa false)
  rw[aab e2,e1];rfl
 rw[hd]
 have hWlt:W9<Z^(m+(n-1)):=by
  have:=xl W9
  rwa [show(dig Z W9).length=m+(n-1) by omega]at this
 have hWM:W9<Z^M:=Z1 hWlt (Z4 bB aa);have hQfv:val Z (dig Z (Q*f))=Q*f:=iS ax _;have hZ:Z=1000000000:=rfl
 refine lo (MD (A:=W9) (n:=n) (M:=M) (m:=m) G hdb hbl (cJ ax _) h2 aa hm aa (Pd (n:=Q*f) (k:=n-1) aa).2.2 _ _ _ m (bg M W9) (List.replicate m 0) (Z7 _) (cT ..) af (vA M W9) (fun x hx=>by grind) ?_ (by grind[oW,xr]) (fun j hj=>by grind[aN]) fun al' ol' q1 q2 q3 q4 q5 q6=>?_)
 .have e1:=mE (B:=Z) (bg M W9) m (by grind[cT]);rw[xr _ _ hWM]at e1;rw[Y6]at hWlt;rw[hQfv];have h3:Z^m*val Z ((bg M W9).drop m)<Z^m*Z^(n-1):=aa;have h4:=W5 h3;have h5:=Y5 Q f0;omega
 .simp only[iP];rw[hQfv]at q5 q6
  have hQ0:0<Q:=by
   have:=Yj (n:=n-1) bB;omega
  have hQf0:0<Q*f:=Yx hQ0 f0
  have hq:val Z ol'=P/Q:=by
   have:(P*f)/(Q*f)=val Z ol':=by
    rw[<-hVe,<-q6,Yr _ _ hQf0,Wr q5,Zp]
   rw[<-this,Nat.mul_div_mul_right _ _ f0]
  have hr:val Z al'=f*(P%Q):=by
   have:(P*f)%(Q*f)=val Z al':=by
    rw[<-hVe,<-q6,Xu,Yk q5]
   rw[<-this,Nat.mul_mod_mul_right,Zt]
  have l9:(dH g sa exa al' ol').length=9:=OG G;have hu:((dH g sa exa al' ol').all fun x=>bW (dH g sa exa al' ol').length x.2)=true:=by rw[l9];exact Bp (Bp G.und)
  have ha:=aew (exa:=exa) (al:=al') (ol:=ol') G;have tr:=uu hu ha q1.symm (len:=M) (cap:=M) (Z7 _) aa (Z7 _);have hta:iN (al'.take M)=dig Z (val Z al'):=by rw[Z6 aa,rR ax q3]
  rw[hta]at tr;refine pT tr ?_ af
  have hla:(dig Z (val Z al')).length<=M:=by
   have:=jE (B:=Z) bB q3;rw[q1]at this;exact iL this
  have sn:=wL ha q1.symm (len:=(dig Z (val Z al')).length) (cap:=M) hla (Z7 _);have htk:=KD q3;rw[htk]at sn;obtain⟨h1,hh1⟩:=mnQ ((dH g sa exa al' ol').set sa (1,.data 1 (al'.map u6) exa true));rw[hh1]at sn;have sm:=He (a:=val Z al') (n:=f) aa f0 aa
  refine cdz (u:=.mk) (ds:=[lst u6 (dig Z (val Z al')),U f]) (h':=h1) (by simp_all[aS]) sm ?_;rw[show fN (.tup [pcs (val Z al'/f),U (val Z al'%f:Nat)])=false from rfl];have h1o:h1[4]?=some (1,.data 1 (ol'.map u6) true false):=by rw[<-hh1,List.getElem?_set_ne aa];exact aeu G
  have h1u:(h1.all fun x=>bW h1.length x.2)=true:=by
   have e:h1.length=9:=by rw[<-hh1,List.length_set,l9]
   rw[e,<-hh1,Zv];intro x hx;rcases Yq hx with h|h
   .grind
   .rw[h];rfl
  have tr2:=uu h1u h1o q2.symm (len:=m) (cap:=m) (Z7 _) aa (Z7 _);have hto:iN (ol'.take m)=dig Z (P/Q):=by rw[Z6 aa,<-hq,rR ax q4]
  rw[hto]at tr2
  show ext _ 0 _
  simp;refine jC (pT tr2 ?_ af)
  have hlo:(dig Z (P/Q)).length<=m:=by
   have:=jE (B:=Z) bB q4;rw[q2,hq]at this;exact iL this
  have sn2:=wL h1o q2.symm (len:=(dig Z (P/Q)).length) (cap:=m) hlo (Z7 _);have htk2:=KD q4;rw[hq]at htk2;rw[htk2]at sn2;have hrr:val Z al'/f=P%Q:=by rw[hr,Xo _ f0]
  rw[hrr];exact aG sn2 (Ek _ _ _)
theorem abS{s s' e e' L n k by_ tot:Nat}{b':Bk}{old cs:LdQ}{fr:Bool}{h:Hp}{q:kkQ}{u:PU q}(hg:h[s]?=some (e,.data n old true fr))(hs':h[s']?=some (e',b'))(ht:tot=L*n)(hold:old.length=L*n)(hcs:cs.length=k*n)(hb:(L+k)*by_<=140737488355328)
  (h0:k=0->q (.ref s e 0 L L tot) h) (h1:0<k->q (.ref s' (e'+1) 0 (L+k) (L+k) (L*n+cs.length)) (h.set s' (e'+1,.data n (old++cs) false false))):rh (apV false s' n by_ (.ref s e 0 L L tot) (.d (.sl k cs)) h) q u:=by
 unfold rh apV;simp only[cellsOf];rw[if_pos hcs];unfold apC;by_cases hk:k=0
 .grind
 .rw[if_neg hk];simp only[eG hg];rw[if_pos ⟨trivial,aa,Z7 _,aa,hcs⟩,if_neg aa,if_pos hb];simp only[if_true,new,hs',Zj];rw[Z6 aa];exact h1 aa
theorem OU{s s' e len cap:Nat}{old:LnQ}{x:Nat}{ex:Bool}{h:Hp}{q:kkQ}{u:PU q}(hg:h[s]?=some (e,.data 1 (old.map u6) ex false))(hold:old.length=cap)(hl:len<cap)
  (hq:q (.ref s e 0 (len+1) cap cap) (h.set s (e,.data 1 ((old.take len++[x]++old.drop (len+1)).map u6) ex false))):rh (apV false s' 1 8 (.ref s e 0 len cap cap) (.d (.sl 1 [u6 x])) h) q u:=by
 unfold rh apV;simp only[cellsOf];rw[if_pos af];unfold apC;rw[if_neg aa];simp only[eG hg];rw[if_pos ⟨trivial,by grind,aa,by grind,af⟩,if_pos aa]
 simp_all
theorem QP{s s' e e' cap:Nat}{b':Bk}{old:LnQ}{x:Nat}{h:Hp}{q:kkQ}{u:PU q}(hg:h[s]?=some (e,.data 1 (old.map u6) true false))(hs':h[s']?=some (e',b'))(hold:old.length=cap)(hb:cap<1000000000000)
  (hq:q (.ref s' (e'+1) 0 (cap+1) (cap+1) (cap+1)) (h.set s' (e'+1,.data 1 ((old++[x]).map u6) false false))):rh (apV false s' 1 8 (.ref s e 0 cap cap cap) (.d (.sl 1 [u6 x])) h) q u:=by
 refine abS (L:=cap) (old:=old.map u6) hg hs' aa (by grind) rfl aa (fun h=>by omega) fun _=>?_
 simp only[Yc,List.length_singleton];rw[show old.map u6++[u6 x]=(old++[x]).map u6 by simp];exact hq
theorem OB{P Q:Nat}(h2:2<=(dig Z Q).length)(hle:(dig Z Q).length<=(dig Z P).length)(hb:(dig Z P).length<10000000):CP Y F.dF [pcs P,pcs Q] (.tup [pcs (P/Q),pcs (P%Q)]):=by
 refine uM ?_;obtain⟨k,hk⟩:∃k,(dig Z Q).length=k+1:=⟨(dig Z Q).length-1,aa⟩;obtain⟨y,hy⟩:=mnQ (nth 0 (dig Z Q) k);obtain⟨f,hf⟩:=mnQ (Z/(y+1));obtain⟨f0,fZ,fQ⟩:=Si hk hy hf aa;have hZ:Z=1000000000:=rfl;have hyZ:y<Z:=by rw[<-hy];exact(cJ ax Q).getD bB k
 have hyb:y<1000000000:=by simp only[hZ]at hyZ;omega
 obtain⟨n,hn⟩:=mnQ ((dig Z Q).length);obtain⟨p,hp⟩:=mnQ ((dig Z P).length);have e1:=fun h:Hp=>kv u6 (dig Z Q) h (k:=.i64) (i:=(k:Int)) aa aa
 have e2:=fun h:Hp=>E5 (dig Z Q) h (j:=k) aa
 rw[hy]at e2;simp only[Int.toNat_natCast]at e1;have e3:((dig Z Q).length:Int)-1=(k:Int):=aa
 have e4:(1000000000:Int)/((y:Int)+1)=(f:Int):=by
  rw[<-hf,hZ];simp
 have y0:¬((y:Int)+1=0):=aa;have lQ:bj (pcs Q)=some (I (dig Z Q).length):=rfl;have lP:bj (pcs P)=some (I (dig Z P).length):=rfl;simp(disch:=try exact ag)[dF,lQ,e3,adP,e1,e2,y0,Zs,e4];obtain⟨W9,hW⟩:=mnQ (P*f)
 have hP1:Z^(p-1)<=P:=by
  rw[<-hp];refine WQ ?_;rcases Zd P with h|h
  .subst h;have h0:(dig Z 0).length=0:=rfl;omega
  .exact h
 have hW1:p-1<(dig Z W9).length:=VA (by rw[<-hW];exact Zu hP1 (Y5 P f0))
 have hW2:W9<Z^(p+1):=by
  rw[<-hW,Nat.pow_succ];have:=xl P;rw[hp]at this;exact Nat.mul_lt_mul_of_lt_of_lt this fZ
 have hW3:=iL hW2
 have hli:∀h:Hp,cO 1 [D.int .u64 0] [(0,V.d (D.int IntKind.u64 0))] h=some ([u6 0],h):=fun h=>by
  rfl
 have sc:=EA (h:=[nnQ,nnQ,nnQ,nnQ,nnQ,nnQ,nnQ,nnQ,nnQ]) (t0:=lst u6 (dig Z P)) (da:=dig Z P) (f:=f) (N:=p+1) rfl fZ f0 (Nc _ _) (cJ ax P) aa aa;rw[iS ax,hW]at sc;refine jC (fe (e:=0) (b:=.none) sc rfl ?_);simp[hli];have hNl:(bg (p+1) W9).length=p+1:=cT ..
 rcases Zi (dig Z W9).length (p+1)with hc|hc
 .have hl:(dig Z W9).length=p:=aa;have hWp:W9<Z^p:=by have:=xl W9;rwa [hl]at this
  have hcell:(bg (p+1) W9).take p++[0]++(bg (p+1) W9).drop (p+1)=bg (p+1) W9:=by
   rw[Zb aa,BQ hWp,Xy (cT ..),Y8]
  rw[hl,hNl];refine OU (x:=0) (ex:=true) rfl hNl aa ?_;rw[hcell];refine CE (M:=p+1) (exa:=true) hn aa hp aa aa f0 fZ (by grind) hW.symm aa aa rfl rfl ?_ rfl rfl rfl rfl aa rfl;intro x hx;simp only[List.set_cons_zero,Zo,Ys,or_false]at hx
  rcases hx with rfl|rfl|rfl|rfl|rfl|rfl|rfl|rfl|rfl<;>rfl
 .have hl:(dig Z W9).length=p+1:=aa;have hcell:bg (p+1) W9++[0]=bg (p+2) W9:=(BQ hW2).symm;rw[hl,hNl];refine QP (x:=0) (e':=0) (b':=.none) rfl rfl hNl aa ?_;rw[hcell];refine CE (M:=p+2) (exa:=false) hn aa hp aa aa f0 fZ (by grind) hW.symm aa aa rfl rfl ?_ rfl rfl rfl rfl aa rfl;intro x hx
  simp only[List.set_cons_zero,List.set_cons_succ,Zo,Ys,or_false]at hx;rcases hx with rfl|rfl|rfl|rfl|rfl|rfl|rfl|rfl|rfl<;>rfl
@[simp]theorem afa(a:Acc)(n:Nat)(c:LdQ):a.v (n+1) c=.ref a.s (a.e+1) 0 (n+1) (n+1) c.length:=id rfl
@[simp]theorem afb(a:Acc)(n:Nat)(c:LdQ):a.b (n+1) c=(a.e+1,.data a.n c false false):=id rfl
theorem A7(k:Nat):Z^k=10^(9*k):=by rw[Xc];rfl
theorem Ou{n:Nat}(h2:n<18446744073709551616):CP Y F.dY [U n,I 10] (S (ai n)):=by
 refine vw ?_;have hd1:=md n;have hd2:ndg n<=20:=cN aa aa;have hn:=cY n;by_cases hs:(n:Int)<100
 .simp(disch:=try exact ag)[dY,hs];refine cd (KM (n:=n) aa) ?_;exact fD rfl
 .have hn0:0<n:=aa;have hit:ai n=dS n (ndg n):=rfl;have hlo:=BH n hn0;generalize ndg n=d at *
  obtain ⟨mid,post,hm,hp,hcell⟩:∃mid post:LdQ,mid.length=d∧post.length=24-d∧List.replicate 24 (D.int .u8 0)=[]++(mid++post):=by
   refine⟨List.replicate d (.int .u8 0),List.replicate (24-d) (.int .u8 0),af,af,?_⟩;rw[List.replicate_append_replicate,show d+(24-d)=24 by omega];rfl
  simp[dY,hs];refine cd (Ab hlo hn hd1 h2) ?_;simp only[List.replicate]at hcell;rw[hcell];rw[show[(1,Bk.data 1 ([]++(mid++post)) true false),nnQ]=cH ([]++(mid++post))from rfl];rw[IH bK d rfl aa];simp;refine pT (h':=cH ([]++((dS n d).map u8++post))) (acE (pre:=[]) rfl hm aa aa hn h2) ?_ af
  rw[IH (by simp[bh];omega) d rfl aa];simp;rw[OH (bs:=dS n d) (by simp[bh];omega) aa (by simp[bh,List.take_append,Z6]) (by simp[bh])];rw[hit]
  try simp
  exact fD rfl
theorem Mi{n:Nat}(h:n<18446744073709551616):CP Y F.gN [U n,I 10] (S (ai n)):=by refine wG ?_;simp[gN];refine cd (Ou h) ?_;exact fD rfl
theorem yU{n:Nat}(h:n<18446744073709551616):CP Y F.iM [U n] (S (ai n)):=by refine JI ?_;simp[iM];refine cd (Mi h) ?_;exact fD rfl
theorem xX:∀(l:LuQ)(a:Nat),pW a l=fE a l
 |[],_=>rfl
 |c::l,a=>xX l _
theorem digit_eq(c:UInt8):oN c=qt c:=by simp only[oN,qt];rw[Xz];simp
theorem Rz{n:Nat}(h:n<10000000000000000000):CP Y F.fH [S (ai n),I 10,I 64] (.tup [U n,.d (.pl .nilIface)]):=by
 have hd:=dZ n;have hc:=tA n
 have hl:(ai n).length<=1000:=by
  have:=cN (n:=n) (d:=19) aa ae;rw[ai,bh];omega
 simp only[qR,Z8]at hc
 have hall:(ai n).all oN=true:=by
  rw[<-hc.1.2];congr 1;funext c;exact digit_eq c
 have ho:Y.X.orc F.fH [.string ⟨⟨ai n⟩⟩,.int .i64 10,.int .i64 64]=some (.tuple #[.int .u64 n,.nilIface]):=by
  have e:∀a,Y.X.orc F.fH a=Lh a:=fun a=>by
   show(match Nat.beq F.fH F.fH with|true=>Lh a|false=>none)=_
   rw[X7]
  rw[e];unfold Lh;simp only;rw[if_pos ⟨trivial,trivial,xp n,hall,hl,by rw[xX,hd];exact h⟩,xX,hd]
 exact CP.orc ho (by intro x hx;simp only[Zo,Ys,or_false]at hx;rcases hx with rfl|rfl|rfl<;>rfl) rfl
theorem xF{n:Nat}(h:n<10000000000000000000):CP Y F.jh [S (ai n)] (.tup [U n,B true]):=by refine C4 ?_;simp[jh];refine cd (Rz h) ?_;simp[Jc];exact aG (zK _ _) rfl
theorem kZ(n:Nat):nS (S (ai n))=some (I (ndg n)):=by
 show some (I (ai n).length)=_
 rw[ai,bh]
theorem DU(a b:Nat):CP Y F.fU [S (ai a),S (ai b)] (if ndg a<=18∧ndg b<=18 then .tup [U a,U b,B true]else .tup [U 0,U 0,B false]):=by
 refine FG ?_;have la:=kZ a;have lb:=kZ b;by_cases h1:18<ndg a
 .rw[if_neg aa];simp(disch:=try exact ag)[fU,la,lb,h1];exact jY (zK _ _) (zK _ _) rfl
 by_cases h2:18<ndg b
 .rw[if_neg aa];simp(disch:=try exact ag)[fU,la,lb,h1,h2];exact jY (zK _ _) (zK _ _) rfl
 .rw[if_pos aa];have ha:a<10000000000000000000:=by have:=cY a;have:=Z4 (n:=10) ae (show ndg a<=18 by omega);omega
  have hb:b<10000000000000000000:=by have:=cY b;have:=Z4 (n:=10) ae (show ndg b<=18 by omega);omega
  simp(disch:=try exact ag)[fU,la,lb,h1,h2];refine cd (xF ha) ?_;simp;refine cd (xF hb) ?_;simp;exact jY (zK _ _) (zK _ _) rfl
theorem acO(l:LuQ)(h:Hp)(k:kkQ):cvB (S l) h k=k (lst u8 l) h:=rfl
variable{h:Hp}
theorem WX{C0:Nat}(l:LuQ)(hl:l.length<=9)(hd:l.all qt=true)(k:KL)(h0 H:Hp)(hh:h0.length=H.length):∀(q p:LuQ),p++q=l->k (.exit 2) [U (fE 0 l:Nat)] H ->
  lp (pP (CX Y) h.length (lst u8 l) (I l.length)) [] h0 [U (fE 0 p:Nat),I p.length] H k
 | []=>by
  intro p hp hk;simp at hp;subst hp;refine aj ?_;simp[pP];exact hk
 | c::q=>by
  intro p hp hk;have hpl:p.length<l.length:=by subst hp;simp
  have hc:nth 0 l p.length=c:=by subst hp;simp
  have hcd:qt c=true:=by
   rw[Zv]at hd;exact hd c (by subst hp;simp)
  rw[mA]at hcd
  have hpd:p.all qt=true:=by
   rw[Zv]at hd ⊢;exact fun x hx=>hd x (by subst hp;simp[hx])
  have e1:=fun h:Hp=>kv u8 l h (k:=.i64) (i:=(p.length:Int)) aa aa
  have e2:=fun h:Hp=>aC u8 0 l h (j:=p.length) hpl
  rw[hc]at e2;simp only[Int.toNat_natCast]at e1;have hb:=uG p 0 hpd
  have hb2:fE 0 p<1000000000:=by
   have:=Z4 (n:=10) ae (show p.length<=8 by omega);omega
  have e3:fE 0 (p++[c])=10*fE 0 p+(c.toNat-48):=by
   rw[vy];simp only[fE,List.foldl_cons,List.foldl_nil];omega
  have ih:=WX (C0:=C0) l hl hd k h0 H hh q (p++[c]) (by simpa using hp) hk;rw[e3]at ih;obtain⟨t,ht⟩:=mnQ (fE 0 p);rw[ht]at ih hb2 ⊢;have e4:(10:Int)*(t:Int)+((c.toNat:Int)-48)=((10*t+(c.toNat-48):Nat):Int):=aa;obtain⟨t2,ht2⟩:=mnQ (10*t+(c.toNat-48));rw[ht2]at ih e4;have hcb:=hcd.1;have hcb2:=hcd.2;refine aj ?_
  simp(disch:=try exact ag)[pP,e1,e2,u8,e4];simpa[hh]using ih
def cuH(h:Hp)(l:LnQ):Hp:=h++[(1,.data 1 (l.map u6) true false),nnQ,nnQ]
theorem QF(h:Hp)(l:LnQ):(cuH h l)[h.length]?=some (1,.data 1 (l.map u6) true false):=by simp[cuH]
theorem abq(h:Hp)(l l':LnQ):(cuH h l).set h.length (1,.data 1 (l'.map u6) true false)=cuH h l':=by simp[cuH]
@[simp]theorem abr(h:Hp)(l:LnQ):(cuH h l).length=h.length+3:=by simp[cuH]
theorem WW(T:LuQ)(cap:Nat)(hL:T.length<9000000000)(k:KL)(h0:Hp)(hh:h0.length=h.length+3):∀(w n:Nat)(E:Int)(d:LnQ),(0<w->E=w)->(w=0->E<=0)->-20<=E->T.take w=dS n w->w<=T.length->d.length+(w+8)/9<=cap->cap<1000000000000->n<10^w->aH Z d ->
  (∀d':LnQ,aH Z d'->d'.length<=cap->val Z d'=val Z d+Z^d.length*n->k (.exit 0) [.ref h.length 1 0 d'.length cap cap] (cuH h (d'++List.replicate (cap-d'.length) 0))) ->
  lp (pQ (CX Y) h.length (S T)) [] h0 [.ref h.length 1 0 d.length cap cap,I E] (cuH h (d++List.replicate (cap-d.length) 0)) k:=by
 intro w
 induction w using Nat.strongRecOn with
 | _ w ih=>
  intro n E d hE1 hE0 hEl hT hwT hw hcap hn hs hk;by_cases h0w:w=0
  .subst h0w;have hE:=hE0 rfl;have g:¬0<E:=aa;simp at hn;subst hn;refine aj ?_;simp[pQ,g];exact hk d hs aa af
  .obtain rfl:=hE1 aa
   obtain ⟨v,u,hv1,hv9,hvw,hu,huv⟩:∃v u:Nat,1<=v∧v<=9∧w=u+v∧mx2 true 0 ((w:Int)-9)=u∧(u=0∨v=9):=by
    by_cases h9:w<=9
    .exact⟨w,0,aa,h9,aa,by simp[mx2];omega,.inl rfl⟩
    .exact⟨9,w-9,aa,aa,aa,by simp[mx2];omega,.inr rfl⟩
   have hD:=AR v u n;rw[<-hvw]at hD;have hlu:=bh u (n/10^v)
   have e1:(T.take w).drop u=dS (n%10^v) v:=by
    rw[hT,hD,Wd hlu];have:=AQ v (n%10^v) (n/10^v);rw[Xk]at this;exact this
   have e2:T.take u=dS (n/10^v) u:=by
    have:T.take u=(T.take w).take u:=by rw[List.take_take,Yv aa]
    rw[this,hT,hD,Xy hlu]
   have hp:0<10^v:=Yj ae;have hm:=Y7 n hp
   have hZv:10^v<=Z:=by
    have:10^v<=10^9:=Z4 ae hv9;exact this
   have hnu:n/10^v<10^u:=Wl (by rw[hvw,Nat.add_comm,Y6]at hn;exact hn)
   have hval:n%10^v+Z*(n/10^v)=n:=by
    have:=Xk n (10^v);rcases huv with rfl|rfl
    .rw[Nat.pow_zero]at hnu;have h3:n/10^v=0:=Nat.lt_one_iff.1 hnu;rw[h3]at this ⊢;simpa using this
    .exact this
   have hdc:d.length<cap:=aa
   have ihh:=ih u aa (n/10^v) ((w:Int)-9) (d++[n%10^v]) (fun h=>by rcases huv with h1|h1<;>omega) (fun h=>by omega) aa e2 aa bK hcap hnu (hs.snoc (Z1 hm hZv)) (fun d' h1 h2 h3=>hk d' h1 h2 (by
    rw[h3,Kn,Zm,List.length_singleton,Nat.pow_succ,Nat.mul_assoc,Xd,<-Zq,hval]))
   have hr:=xU v (n%10^v) hm;have hall:=xv v (n%10^v);have hlv:=bh v (n%10^v)
   have esl:slS (S T) (some (I u)) (some (I w))=some (S (dS (n%10^v) v)):=by
    rw[ND u w rfl rfl aa hwT,<-e1,List.drop_take]
   obtain⟨r,hre⟩:=mnQ (n%10^v);rw[hre]at esl hr hall hlv ihh;generalize dS r v=L at *
   have hli:∀h:Hp,cO 1 [D.int .u64 0] [(0,U r)] h=some ([u6 r],h):=fun h=>by
    simp[cO,jv,iH,toD,u6]
   have hcell:(d++List.replicate (cap-d.length) 0).take d.length++[r]++(d++List.replicate (cap-d.length) 0).drop (d.length+1)=(d++[r])++List.replicate (cap-(d++[r]).length) 0:=by
    rw[Xy rfl]
    have:List.replicate (cap-d.length) 0=0::List.replicate (cap-d.length-1) 0:=by
     rw[<-List.replicate_succ];congr 1;omega
    rw[this,<-List.drop_drop,Wd rfl];rw[show cap-d.length-1=cap-(d++[r]).length by simp;omega];simp
   have hcl:(d++List.replicate (cap-d.length) 0).length=cap:=by simp;omega
   have aw:=QF h (d++List.replicate (cap-d.length) 0);have gp:0<(w:Int):=aa;clear hk ih hval;refine aj ?_;simp(disch:=try exact ag)[pQ,gp,mxI,hu,esl];rw[acO];simp;refine lo (WX (C0:=0) L aa hall _ _ _ rfl L [] rfl ?_);rw[hr];simp[hli];refine OU aw hcl hdc ?_;rw[hcell,abq];simp(disch:=try exact ag)[hh]
   simpa using ihh
theorem T7{s by_:Nat}{z:D}{h:Hp}{i e:Nat}{b:Bk}{k:kkQ}{u:PU k}(hs:h[s]?=some (e,b))(hb:(by_:Int)*i<=281474976710656)(h1:(i:Int)<=9223372036854775807)
  (hk:k (.ref s (e+1) 0 0 i i) (h.set s (e+1,.data 1 (List.replicate i z) true false))):rh (mkS s by_ [z] h (.d (.int .i64 0)) (.d (.int .i64 i))) k u:=by unfold rh;simp only[mkS];rw[if_pos ⟨Int.le_refl _,aa,af,hb,h1⟩];simp only[new,hs,EJ,Zh,Int.toNat_natCast];exact hk
theorem tv(hu:(h.all fun x=>bW h.length x.2)=true){n:Nat}(hb:ndg n<900000000)(hcap:cap=ndg n/9+1):
  CI Y F.cW [S (ai n)] h (.new 1 ((bg cap n).map u6) true (dig Z n).length cap) h:=by
 refine GE ?_;have hl:=kZ n;have hlT:(ai n).length=ndg n:=by rw[ai,bh]
 have e1:((ndg n:Nat):Int)/9+1=(cap:Int):=aa
 have e3:(h++[(1,Bk.data 1 (List.replicate cap (D.int IntKind.u64 0)) true false),nnQ,nnQ])=cuH h ([]++List.replicate (cap-([]:LnQ).length) 0):=by
  simp[cuH,u6]
 have e4:(h++[(0,Bk.none),(0,Bk.none),(0,Bk.none)]).set h.length (1,Bk.data 1 (List.replicate cap (D.int IntKind.u64 0)) true false)=cuH h ([]++List.replicate (cap-([]:LnQ).length) 0):=by
  simp[cuH,u6]
 have hcap2:cap<1000000000000:=aa;simp(disch:=try exact ag)[cW,hl,Zs,e1];refine T7 (e:=0) (b:=.none) af aa aa ?_;simp[hl]
 try rw[e4]
 try rw[e3]
 refine lo (WW (ai n) cap aa _ _ (abr ..) (ndg n) n (ndg n) [] (fun _=>rfl) (fun h=>by have:=md n;omega) aa (by rw[<-hlT,Wq];rw[hlT];rfl) aa bK hcap2 (cY n) (fun x hx=>by cases hx) fun d hs hdl hv=>?_);simp only[iP];have hv':val Z d=n:=by rw[hv];simp[val]
 obtain⟨o,ho⟩:=mnQ (d++List.replicate (cap-d.length) 0);have hol:o.length=cap:=by rw[<-ho];simp;omega
 have hos:aH Z o:=by
  rw[<-ho];exact hs.append fun x hx=>by rw[List.mem_replicate]at hx;rw[hx.2];exact bB
 have hov:val Z o=n:=by rw[<-ho,ZJ,hv']
 rw[ho];have hfix:o=bg cap n:=by rw[<-hov,<-hol];exact DK o hos
 have hu2:((cuH h o).all fun x=>bW (cuH h o).length x.2)=true:=by
  have hm:(h.all fun x=>bW (cuH h o).length x.2)=true:=OV af hu;rw[cuH,Yp,<-cuH,hm];rfl
 have htk:o.take d.length=d:=by rw[<-ho,Xy rfl]
 have tr:=uu hu2 (QF h o) hol.symm (len:=d.length) (cap:=cap) (Z7 _) hcap2 hdl;rw[htk,<-rR ax hs,hv']at tr;refine pT tr ?_ af;rw[<-hfix];refine⟨by simp[cuH],by simpa using hu,.inr (.inr (.inl ⟨h.length,1,_,cap,1,o.map u6,true,by simp[hol],Z7 _,by simp[aw,cuH],rfl⟩))⟩
variable{h:Hp}{s e tot:Nat}{l:LuQ}{ex fr:Bool}
theorem ix8(hg:h[s]?=some (e,.data 1 (l.map u8) ex fr))(ht:tot=l.length){len:Nat}{i:Int}(h0:0<=i)(h1:i<len)(k:IntKind):ixV h 1 (.ref s e 0 len cap tot) (.d (.int k i))=some (.ptr s e i.toNat tot):=by grind[ixV,eG]
theorem ld8(hg:h[s]?=some (e,.data 1 (l.map u8) ex fr))(ht:tot=l.length)(hj:j<l.length):ld1 h (.ptr s e j tot)=some (.d (u8 (nth 0 l j))):=by
 have e1:tot=(l.map u8).length:=by simp[ht]
 grind[ld1,eG,aN]
theorem st8(hg:h[s]?=some (e,.data 1 (l.map u8) ex false))(ht:tot=l.length)(hj:j<l.length)(x:UInt8):st h 1 (.ptr s e j tot) (.d (u8 x))=some (h.set s (e,.data 1 ((l.set j x).map u8) ex false)):=by
 have e1:(l.map u8).take j++[u8 x]++(l.map u8).drop (j+1)=(l.set j x).map u8:=by
  rw[List.map_set,Ya,if_pos (by grind)];simp
 simp only[st,if_true,sto,eG hg,iH,toD];rw[if_pos ⟨trivial,by grind,by grind⟩];simp only[bS,List.length_singleton];rw[<-e1];rfl
theorem ap8{s' cap len:Nat}{x:UInt8}{q:kkQ}{u:PU q}(hg:h[s]?=some (e,.data 1 (l.map u8) ex false))(hold:l.length=cap)(hl:len<cap)
  (hq:q (.ref s e 0 (len+1) cap cap) (h.set s (e,.data 1 ((l.take len++[x]++l.drop (len+1)).map u8) ex false))):rh (apV false s' 1 1 (.ref s e 0 len cap cap) (.d (.sl 1 [u8 x])) h) q u:=by
 unfold rh apV;simp only[cellsOf];rw[if_pos af];unfold apC;rw[if_neg aa];simp only[eG hg];rw[if_pos ⟨trivial,by grind,aa,by grind,af⟩,if_pos aa]
 simp_all
def s8(h:Hp)(s e:Nat)(ex:Bool)(l:LuQ):Hp:=h.set s (e,.data 1 (l.map u8) ex false)
theorem TG{h:Hp}{s e:Nat}{ex:Bool}{l:LuQ}(hs:s<h.length):(s8 h s e ex l)[s]?=some (e,.data 1 (l.map u8) ex false):=by simp[s8,hs]
theorem TF{h:Hp}{s e:Nat}{ex:Bool}{l l':LuQ}:(s8 h s e ex l).set s (e,.data 1 (l'.map u8) ex false)=s8 h s e ex l':=by simp[s8]
@[simp]theorem ahN{h:Hp}{s e:Nat}{ex:Bool}{l:LuQ}:(s8 h s e ex l).length=h.length:=by simp[s8]
theorem UU{l:LuQ}{m n:Nat}{v:UInt8}(hm:m<l.length):nth 0 (l.set m v) n=if m=n then v else nth 0 l n:=by grind[nth]
theorem T9{h:Hp}{s e tot:Nat}{ex:Bool}(hs:s<h.length){L:Nat}(hL:L<=tot)(htb:tot<1000000000000)(l0:LuQ)(k:KL)(h0:Hp)(hh:h0.length=h.length):
  ∀(r i:Nat)(l:LuQ),L<=2*i+r->2*i<=L+1->l.length=tot->(∀m,m<L->(m<i∨L-1-m<i)->nth 0 l m=nth 0 l0 (L-1-m))->(∀m,m<L->i<=m->i<=L-1-m->nth 0 l m=nth 0 l0 m)->(∀m,L<=m->nth 0 l m=nth 0 l0 m) ->
  (∀l':LuQ,l'.length=tot->(∀m,m<L->nth 0 l' m=nth 0 l0 (L-1-m))->(∀m,L<=m->nth 0 l' m=nth 0 l0 m)->k (.exit 0) [] (s8 h s e ex l')) ->
  lp (dJ (CX Y) h.length (.ref s e 0 L cap tot)) [] h0 [I i,I ((L:Int)-1-i)] (s8 h s e ex l) k:=by
 intro r
 induction r with
 | zero=>
  intro i l hr hi hl h1 h2 h3 hk;refine aj ?_;have g:¬((i:Int)<(L:Int)-1-i):=aa;simp[dJ,g];exact hk l hl (fun m hm=>h1 m hm aa) h3
 | succ r ih=>
  intro i l hr hi hl h1 h2 h3 hk;by_cases g:i+i+1<L
  .obtain⟨j,hj⟩:=mnQ (L-1-i);have g':((i:Int)<(L:Int)-1-i):=aa;have ej:(L:Int)-1-i=(j:Int):=aa;have hgt:=TG (e:=e) (ex:=ex) (l:=l) hs;have a1:=ix8 hgt hl.symm (len:=L) (cap:=cap) (i:=(j:Int)) aa aa .i64;have a2:=ld8 hgt hl.symm (j:=j) aa;have b1:=ix8 hgt hl.symm (len:=L) (cap:=cap) (i:=(i:Int)) aa aa .i64
   have b2:=ld8 hgt hl.symm (j:=i) aa;have b3:=st8 hgt hl.symm (j:=i) aa (nth 0 l j);rw[TF]at b3;have hgt2:=TG (e:=e) (ex:=ex) (l:=l.set i (nth 0 l j)) hs;have c1:=ix8 hgt2 (by simpa using hl.symm) (len:=L) (cap:=cap) (i:=(j:Int)) aa aa .i64;have c3:=st8 hgt2 (by simpa using hl.symm) (j:=j) bK (nth 0 l i);rw[TF]at c3
   simp only[Int.toNat_natCast]at a1 b1 c1
   have nn:∀m,nth 0 ((l.set i (nth 0 l j)).set j (nth 0 l i)) m=if j=m then nth 0 l i else if i=m then nth 0 l j else nth 0 l m:=fun m=>by
    rw[UU bK,UU aa]
   have ihh:=ih (i+1) ((l.set i (nth 0 l j)).set j (nth 0 l i)) aa aa (by simpa using hl) (fun m hm hc=>by
    rw[nn];by_cases e1:j=m
    .rw[if_pos e1,h2 i aa (Z7 _) aa];congr 1;omega
    .rw[if_neg e1];by_cases e2:i=m
     .rw[if_pos e2,h2 j aa aa aa];congr 1;omega
     .rw[if_neg e2];exact h1 m hm aa) (fun m hm hc hc2=>by
    rw[nn,if_neg aa,if_neg aa];exact h2 m hm aa aa) (fun m hm=>by
    rw[nn,if_neg aa,if_neg aa];exact h3 m hm) hk
   have e2:(j:Int)-1=(L:Int)-1-((i+1:Nat):Int):=aa;rw[<-e2]at ihh;clear hk ih;refine aj ?_;rw[ej]at g' ⊢;simp(disch:=try exact ag)[dJ,g',a1,a2,b1,b2,b3,c1,c3];simpa[hh]using ihh
  .refine aj ?_;have g':¬((i:Int)<(L:Int)-1-i):=aa;simp[dJ,g']
   exact hk l hl (fun m hm=>by
    by_cases hc:m<i∨L-1-m<i
    .exact h1 m hm hc
    .rw[h2 m hm aa aa];congr 1;omega) h3
theorem aio{x y:LuQ}(hl:x.length=y.length)(h:∀c,c<x.length->nth 0 x c=nth 0 y c):x=y:=by grind[Wp,aN]
theorem aaj{h:Hp}(hu:(h.all fun x=>bW h.length x.2)=true){s e tot:Nat}{ex:Bool}(hs:s<h.length){L:Nat}(hL:L<=tot)(htb:tot<1000000000000){l:LuQ}(hl:l.length=tot):
  CI Y F.bP [.ref s e 0 L cap tot] (s8 h s e ex l) (.tup []) (s8 h s e ex ((l.take L).reverse++l.drop L)):=by
 refine sQ ?_;simp(disch:=try exact ag)[bP];have e1:(L:Int)-1=(L:Int)-1-((0:Nat):Int):=aa;rw[e1]
 have:=T9 (h:=h) (s:=s) (e:=e) (ex:=ex) hs (cap:=cap) hL htb l (exK [(.exit 0,fun l3 h_1=>qN (List.length (s8 h s e ex l)) (.tup []) (s8 h s e ex ((l.take L).reverse++l.drop L)) (.tup []) h_1)]) (s8 h s e ex l) af L 0 l aa aa hl (fun m hm hc=>by omega) (fun m _ _ _=>rfl) (fun m _=>rfl) fun l' hl' h1 h2=>by
  have hE:l'=(l.take L).reverse++l.drop L:=by
   refine aio (by grind) fun c hc=>?_
   by_cases hcL:c<L
   .rw[h1 c hcL,aN _ _ _ aa,aN _ _ _ (by grind)]
    grind
   .rw[h2 c aa,aN _ _ _ aa,aN _ _ _ (by grind)]
    grind
  subst hE;simp only[iP];refine⟨(Z6 af).symm,?_,.inl ⟨rfl,rfl⟩⟩;rw[Zv]at hu ⊢;intro x hx;rcases Yq hx with h|h
  .simpa using hu x h
  .rw[h];rfl
 trivial
def tH(l:LuQ):Hp:=[(1,.data 1 (l.map u8) true false),nnQ,nnQ]
theorem SX(l:LuQ):(tH l)[0]?=some (1,.data 1 (l.map u8) true false):=rfl
@[simp]theorem ahC(l:LuQ):(tH l).length=3:=rfl
theorem SV(l l':LuQ):(tH l).set 0 (1,.data 1 (l'.map u8) true false)=tH l':=rfl
theorem Pf{p:LnQ}{i N:Nat}(hi:i<p.length)(hp:p.length<100000000)(hN:N<1000000000000)(k:KL)(h0:Hp)(hh:h0.length=3):∀(w j x:Nat)(bs:LuQ),
  (i+1<p.length∧j+w=9∨¬i+1<p.length∧j+w<=9∧x<10^w∧(0<w->10^(w-1)<=x))->x<1000000000->bs.length+w<=N ->
  k (.exit 2) [.ref 0 1 0 (bs.length+w) N N] (tH (bs++(dS x w).reverse++List.replicate (N-(bs.length+w)) 0)) ->
  lp (cZ (CX Y) (lst u6 p) (I i)) [] h0 [.ref 0 1 0 bs.length N N,U x,I j] (tH (bs++List.replicate (N-bs.length) 0)) k
 | 0,j,x,bs=>by
  intro hc hx hb hk;have lp':bj (lst u6 p)=some (I p.length):=rfl;refine aj ?_;rcases hc with⟨g1,g2⟩|⟨g1,g2,g3,g4⟩
  .have g5:¬((j:Int)<9):=aa;simp[cZ,g5]
   grind[dS]
  .have x0:x=0:=by simpa using g3
   subst x0;have g1':¬((i:Int)+1<(p.length:Int)):=aa;by_cases g5:(j:Int)<9
   .simp(disch:=try exact ag)[cZ,g5,lp',g1']
    grind[dS]
   .simp[cZ,g5]
    grind[dS]
 | w+1,j,x,bs=>by
  intro hc hx hb hk;have lp':bj (lst u6 p)=some (I p.length):=rfl;have g5:(j:Int)<9:=aa;have hdg:u8 (dg (x%10))=.int .u8 (48+((x%10:Nat):Int)):=O5 (Y7 _ ae);obtain⟨m,hm⟩:=mnQ (x%10);obtain⟨d,hd⟩:=mnQ (x/10);have hm10:m<10:=aa;have e1:(x:Int)%10=(m:Int):=aa;have e2:(x:Int)/10=(d:Int):=aa;rw[hm]at hdg
  have hdec:(dS x (w+1)).reverse=dg m::(dS d w).reverse:=by rw[dS,hd,hm];simp
  have ih:=Pf hi hp hN k h0 hh w (j+1) d (bs++[dg m]) (by
   rcases hc with⟨g1,g2⟩|⟨g1,g2,g3,g4⟩
   .exact .inl ⟨g1,aa⟩
   .refine .inr ⟨g1,aa,?_,fun hw=>?_⟩
    .omega
    .have:=g4 aa;rw[<-hd,W8 ae,<-Nat.pow_succ,show(w-1).succ=w+1-1 by omega];omega) aa (by grind) (by
   grind)
  have hcell:(bs++List.replicate (N-bs.length) 0).take bs.length++[dg m]++(bs++List.replicate (N-bs.length) 0).drop (bs.length+1)=(bs++[dg m])++List.replicate (N-(bs++[dg m]).length) 0:=by
   rw[Xy rfl]
   have:List.replicate (N-bs.length) (0:UInt8)=0::List.replicate (N-bs.length-1) 0:=by
    rw[<-List.replicate_succ];congr 1;omega
   rw[this,<-List.drop_drop,Wd rfl];rw[show N-bs.length-1=N-(bs++[dg m]).length by grind];simp
  have hcl:(bs++List.replicate (N-bs.length) 0).length=N:=by simp;omega
  have hli:∀h:Hp,cO 1 [D.int .u8 0] [(0,.d (.int .u8 (48+(m:Int))))] h=some ([u8 (dg m)],h):=fun h=>by
   simp_all[cO,jv,iH,toD]
  have hx0:¬i+1<p.length->0<(x:Int):=fun h=>by
   grind
  clear hk;refine aj ?_;by_cases g1:(i:Int)+1<(p.length:Int)
  .simp(disch:=try exact ag)[cZ,g5,lp',g1,Zx,Zs,e1,e2,hli];refine ap8 (SX _) hcl aa ?_;rw[hcell];simp only[SV];simp(disch:=try exact ag)[Zx,Zs,e2]
   simp_all
  .have g3:=hx0 aa;simp(disch:=try exact ag)[cZ,g5,lp',g1,g3,Zx,Zs,e1,e2,hli];refine ap8 (SX _) hcl aa ?_;rw[hcell];simp only[SV];simp(disch:=try exact ag)[Zx,Zs,e2]
   simp_all
theorem agl{l:LuQ}{L:Nat}(hl:l.length=N)(hL:L<=N):cvT (tH l) (.ref 0 1 0 L N N)=some (S (l.take L)):=by simp only[cvT,cellsOf,tH,aw];simp[hl,hL,<-List.map_take,Cc]
def txS(p:LnQ)(i:Nat):LuQ:=if i<p.length then(dS (val Z (p.take i)) (9*i)).reverse else(ai (val Z p)).reverse
theorem O8{p:LnQ}(hp:aH Z p)(hne:p≠[])(i:Nat)(hi:i<=p.length):(txS p i).length<=9*p.length:=by
 unfold txS;split
 .simp[bh];omega
 .have h1:=jE (B:=Z) bB hp;rw[A7]at h1;have:=cN h1 (by have:=Xj.2 hne;omega);simp[ai,bh];exact this
theorem SL{p:LnQ}(hp:aH Z p)(hn:A8 p){i:Nat}(hi:i<p.length):
  ∃w,(i+1<p.length∧0+w=9∨¬i+1<p.length∧0+w<=9∧nth 0 p i<10^w∧(0<w->10^(w-1)<=nth 0 p i))∧txS p (i+1)=txS p i++(dS (nth 0 p i) w).reverse:=by
 obtain⟨x,hx⟩:=mnQ (nth 0 p i);have hxZ:x<Z:=by rw[<-hx];exact hp.getD bB i
 have hv:=yz (B:=Z) p hi;rw[show p.getD i 0=x from hx]at hv;have hlow:=jE (B:=Z) bB (hp.take i);rw[Zr,Yv aa]at hlow;rw[A7]at hlow hv;obtain⟨r,hr⟩:=mnQ (val Z (p.take i));rw[hr]at hlow hv;rw[hx];by_cases hl:i+1<p.length
 .refine⟨9,.inl ⟨hl,rfl⟩,?_⟩;have hpp:0<10^(9*i):=Yj ae;rw[txS,if_pos hl,txS,if_pos hi,hr,hv,show 9*(i+1)=9+9*i by omega,AR,Yr _ _ hpp,Wr hlow,Zp,AQ,List.reverse_append]
 .have hip:i+1=p.length:=aa
  have hx0:0<x:=by
   have hne:p≠[]:=fun e=>by rw[e]at hi;simp at hi
   have:=hn hne;rw[List.getLast_eq_getElem]at this;rw[<-hx,aN _ _ _ hi];have e:p.length-1=i:=aa;simp only[e]at this;omega
  refine⟨ndg x,.inr ⟨hl,?_,cY x,fun _=>BH x hx0⟩,?_⟩
  .have:ndg x<=9:=cN (by simp only[Z]at hxZ;omega) ae;omega
  .rw[txS,if_neg hl,txS,if_pos hi,hr]
   have hval:val Z p=r+10^(9*i)*x:=by
    have:p.take (i+1)=p:=Z6 aa;rw[<-hv,this]
   rw[hval,R4 hx0 hlow,List.reverse_append];rfl
theorem Pg{p:LnQ}(hp:aH Z p)(hn:A8 p)(hne:p≠[])(hpl:p.length<100000000)(k:KL)(h0:Hp)(hh:h0.length=3){N:Nat}(hN:N=9*p.length) :
  ∀(r i:Nat),i+r=p.length->k (.exit 0) [.ref 0 1 0 (txS p p.length).length N N] (tH (txS p p.length++List.replicate (N-(txS p p.length).length) 0)) ->
  lp (iW (CX Y) (lst u6 p) (lst u6 p) (I p.length)) [] h0 [.ref 0 1 0 (txS p i).length N N,I i] (tH (txS p i++List.replicate (N-(txS p i).length) 0)) k
 | 0,i=>by
  intro hi hk;have:i=p.length:=aa;subst this;refine aj ?_;simp[iW];exact hk
 | r+1,i=>by
  intro hi hk;have hil:i<p.length:=aa;obtain⟨w,hw,hst⟩:=SL hp hn hil;have ih:=Pg hp hn hne hpl k h0 hh hN r (i+1) aa hk;have hlen2:=O8 hp hne (i+1) aa;rw[hst]at ih hlen2;have hlw:(txS p i++(dS (nth 0 p i) w).reverse).length=(txS p i).length+w:=by simp[bh]
  rw[hlw]at ih hlen2;have e1:=fun h:Hp=>kv u6 p h (k:=.i64) (i:=(i:Int)) aa aa
  have e2:=fun h:Hp=>E5 p h (j:=i) hil
  simp only[Int.toNat_natCast]at e1;have hxZ:nth 0 p i<1000000000:=by have:=hp.getD bB i;simp only[Z]at this;exact this
  refine aj ?_;simp(disch:=try exact ag)[iW,e1,e2];refine lo (Pf hil hpl aa _ _ rfl w 0 (nth 0 p i) (txS p i) hw hxZ aa ?_);simp(disch:=try exact ag)[hh];simpa using ih
theorem fj:ai 0=[48]:=by rw[ai,show ndg 0=1 by unfold ndg;simp];rfl
theorem uU{n:Nat}(hb:(dig Z n).length<100000000):CP Y F.aP [pcs n] (S (ai n)):=by
 refine wi ?_;obtain⟨p,hp⟩:=mnQ (dig Z n);have hs:aH Z p:=by rw[<-hp];exact cJ ax n
 have hno:A8 p:=by rw[<-hp];exact FD ax n
 have hv:val Z p=n:=by rw[<-hp];exact iS ax n
 rw[pcs,hp];rw[hp]at hb;have lP:bj (lst u6 p)=some (I p.length):=rfl;by_cases hne:p=[]
 .subst hne;have:n=0:=by rw[<-hv];rfl
  subst this;simp[aP,lP];exact fD fj.symm
 .have hpos:=Xj.2 hne;obtain⟨N,hN⟩:=nmQ (9*p.length);have e9:(9:Int)*(p.length:Int)=(N:Int):=aa;have g1:¬((p.length:Int)=0):=aa;have g2:¬(p.length=0):=aa;have t0:txS p 0=[]:=by rw[txS,if_pos hpos];simp[dS,val]
  have tl:txS p p.length=(ai n).reverse:=by rw[txS,if_neg aa,hv]
  have hln:=O8 hs hne p.length (Z7 _);rw[tl,List.length_reverse]at hln;simp(disch:=try exact ag)[aP,lP,g1,g2,hne,e9];refine T7 (e:=0) (b:=.none) rfl aa aa ?_;simp[lP]
  have hz:[(1,Bk.data 1 (List.replicate N (D.int IntKind.u8 0)) true false),nnQ,nnQ]=tH (txS p 0++List.replicate (N-(txS p 0).length) 0):=by
   rw[t0];simp[tH,u8]
  have main:=Pg hs hno hne hb (exK [(.exit 0,fun l7 h=>
   cai (CX Y).i h (.fn F.bP [] []) [(ge l7 0)] 2 fun v8 h=>
   bnd (cvT h (ge l7 0)) fun v9=>
   out (S (ai n)) v9 h)]) (tH (txS p 0++List.replicate (N-(txS p 0).length) 0)) rfl hN p.length 0 aa (by
   simp only[iP,tl,List.length_reverse,DJ];obtain⟨l,hl⟩:=mnQ ((ai n).reverse++List.replicate (N-(ai n).length) 0);have hll:l.length=N:=by rw[<-hl];simp;omega
   rw[hl];have rv:=aaj (h:=tH l) rfl (s:=0) (e:=1) (ex:=true) af (L:=(ai n).length) (cap:=N) (tot:=N) aa aa hll
   have hl2:(l.take (ai n).length).reverse++l.drop (ai n).length=ai n++List.replicate (N-(ai n).length) 0:=by
    rw[<-hl,Xy af,Wd af,List.reverse_reverse]
   rw[hl2]at rv;refine pT rv ?_ af
   show bnd (cvT (tH _) _) _
   rw[agl bK aa,Xy rfl];exact fD rfl)
  rw[t0]at main hz;rw[hz];exact main
theorem H4(a b:LnQ)(hab:a.length=b.length)(hs:a.length<1000000000)(k:KL):∀i:Nat,i<=a.length->(N5 a b i=0->k (.exit 0) [] [])->(N5 a b i≠0->k .ret [I (N5 a b i)] []) ->
  lp (cX (CX Y) (lst u6 a) (lst u6 b)) [] [] [I ((i:Int)-1)] [] k
 | 0,_,h0,_=>by
  refine aj ?_;simp[cX];exact h0 rfl
 | i+1,hi,h0,h1=>by
  have e1:=fun h:Hp=>kv u6 a h (k:=.i64) (i:=(i:Int)) aa aa
  have e2:=fun h:Hp=>E5 a h (j:=i) aa
  have e3:=fun h:Hp=>kv u6 b h (k:=.i64) (i:=(i:Int)) aa aa
  have e4:=fun h:Hp=>E5 b h (j:=i) aa
  simp only[Int.toNat_natCast]at e1 e3;obtain⟨x,hx⟩:=mnQ (nth 0 a i);obtain⟨y,hy⟩:=mnQ (nth 0 b i);rw[hx]at e2;rw[hy]at e4;simp only[N5,show a.getD i 0=x from hx,show b.getD i 0=y from hy]at h0 h1;have ei:((i+1:Nat):Int)-1=(i:Int):=aa;refine aj ?_;rw[ei];by_cases g1:x<y
  .have g1':(x:Int)<(y:Int):=aa;rw[if_pos g1]at h1;simp[cX,e1,e2,e3,e4,g1'];exact h1 ae
  .rw[if_neg g1]at h0 h1;have g1':¬(x:Int)<(y:Int):=aa;by_cases g2:y<x
   .have g2':(y:Int)<(x:Int):=aa;rw[if_pos g2]at h1;simp[cX,e1,e2,e3,e4,g1',g2'];exact h1 ae
   .have g2':¬(y:Int)<(x:Int):=aa;rw[if_neg g2]at h0 h1;have:=H4 a b hab hs k i aa h0 h1;simp(disch:=try exact ag)[cX,e1,e2,e3,e4,g1',g2'];simpa using this
theorem abu(ha:(dig Z a).length<1000000000)(hb:(dig Z b).length<1000000000):CP Y F.cD [pcs a,pcs b] (I (cmp a b)):=by
 refine ub ?_;have la:bj (pcs a)=some (I (dig Z a).length):=rfl;have lb:bj (pcs b)=some (I (dig Z b).length):=rfl;by_cases hl:(dig Z a).length=(dig Z b).length
 .have ho:=PV bB (cJ ax a) (cJ ax b) (dig Z a).length (Z7 _) aa;rw[Wq,hl,Wq,iS ax,iS ax,<-hl]at ho;have hli:((dig Z a).length:Int)=((dig Z b).length:Int):=aa;simp(disch:=try exact ag)[cD,la,lb,hl];refine lo (show lp _ _ _ _ _ _ from ?_);rw[<-hli]
  refine H4 (dig Z a) (dig Z b) hl ha _ _ (Z7 _) (fun h0=>?_) (fun h0=>?_)
  .simp only[iP];exact cx (by rw[<-ho,h0])
  .simp only[AL,DL,DJ];exact cx (by rw[ho])
 .have hli:¬((dig Z a).length:Int)=((dig Z b).length:Int):=aa;rcases Zi (dig Z a).length (dig Z b).length with h|h
  .have:=JL ax (m:=a) (n:=b) h;have e:cmp a b = -1:=by simp[cmp,this]
   have e2:mx2 false 1 (mx2 true (-1) (((dig Z a).length:Int)-((dig Z b).length:Int))) = -1:=by simp[mx2];omega
   simp(disch:=try exact ag)[cD,la,lb,hl,mxI,e2];exact cx (by rw[e])
  .have:=JL ax (m:=b) (n:=a) aa;have e:cmp a b=1:=by unfold cmp;rw[if_neg aa,if_pos this]
   have e2:mx2 false 1 (mx2 true (-1) (((dig Z a).length:Int)-((dig Z b).length:Int)))=1:=by simp[mx2];omega
   simp(disch:=try exact ag)[cD,la,lb,hl,mxI,e2];exact cx (by rw[e])
theorem Co(h:Hp)(l:LuQ):bJ h (S l)=some (S l,h):=rfl
theorem QD{n:Nat}(h:ndg n<=d)(hd:d<90000000):(dig Z n).length<100000000:=by have h1:=cY n;have h2:n<Z^d:=Z1 h1 (by rw[A7];exact Z4 ae aa);have:=iL h2;omega
theorem BW(hb:0<b)(ha:ndg a<1000000)(hbd:ndg b<1000000):CP Y F.eW [S (ai a),S (ai b)] (.tup [S (ai (a/b)),S (ai (a%b)),I 0]):=by
 refine BZ ?_
 have hne:¬ai b=[48]:=by
  rw[<-fj];intro e;have:=congrArg (fE 0) e;rw[dZ,dZ]at this;omega
 have hla:=QD (Nat.le_of_lt ha) ae;have hlb:=QD (Nat.le_of_lt hbd) ae;have bo:=DU a b;simp[eW,hne];by_cases h18:ndg a<=18∧ndg b<=18
 .rw[if_pos h18]at bo;have ha2:a<1000000000000000000:=by have:=cY a;have:=Z4 (n:=10) ae h18.1;omega
  refine cd bo ?_;obtain⟨q,hq⟩:=mnQ (a/b);obtain⟨r,hr⟩:=mnQ (a%b);have hqa:q<=a:=by rw[<-hq];exact Yu ..
  have hra:r<=a:=by rw[<-hr];exact Nat.mod_le ..
  have e1:(a:Int)/(b:Int)=(q:Int):=by rw[<-hq];simp
  have e2:(a:Int)%(b:Int)=(r:Int):=by rw[<-hr];simp
  have hb0:¬((b:Int)=0):=aa;have hb0':¬(b=0):=aa;rw[hq,hr];simp(disch:=try exact ag)[hb0,hb0',Zs,Zx,e1,e2];refine cd (yU (n:=q) aa) ?_;simp[hb0,hb0',Zs,Zx,e1,e2];refine cd (yU (n:=r) aa) ?_;exact jY (Co _ _) (Co _ _) rfl
 .rw[if_neg h18]at bo;refine cd bo ?_;obtain⟨ca,hca⟩:=nmQ (ndg a/9+1);obtain⟨cb,hcb⟩:=nmQ (ndg b/9+1);have ltA:a<Z^ca:=Z1 (cY a) (by rw[A7];exact Z4 ae aa);have ltB:b<Z^cb:=Z1 (cY b) (by rw[A7];exact Z4 ae aa)
  have cA:=tv (h:=[nnQ,nnQ]) rfl (n:=a) aa hca;have lA:(bg ca a).length=ca:=cT ..;have lB:(bg cb b).length=cb:=cT ..;have cB:=tv (h:=[(1,.data 1 ((bg ca a).map u6) true false),nnQ]) rfl (n:=b) aa hcb;simp;refine jC (fe (e:=0) (b:=.none) cA rfl ?_);rw[List.length_map,lA];simp
  refine jC (fe (e:=0) (b:=.none) cB rfl ?_);rw[List.length_map,lB];simp;have sA:=wL (h:=[(1,.data 1 ((bg ca a).map u6) true false),(1,.data 1 ((bg cb b).map u6) true false)]) (s:=0) rfl lA.symm (len:=(dig Z a).length) (cap:=ca) (iL ltA) (Z7 _)
  have sB:=wL (h:=[(1,.data 1 ((bg ca a).map u6) true true),(1,.data 1 ((bg cb b).map u6) true false)]) (s:=1) rfl lB.symm (len:=(dig Z b).length) (cap:=cb) (iL ltB) (Z7 _);rw[nK ltA]at sA;rw[nK ltB]at sB;simp only[List.set_cons_zero,List.set_cons_succ]at sA sB
  have sAB:aS [(1,.data 1 ((bg ca a).map u6) true false),(1,.data 1 ((bg cb b).map u6) true false)] [.ref 0 1 0 (dig Z a).length ca ca,.ref 1 1 0 (dig Z b).length cb cb]=some ([pcs a,pcs b],[(1,.data 1 ((bg ca a).map u6) true true),(1,.data 1 ((bg cb b).map u6) true true)]):=by
   simp only[aS,sA,sB];rfl
  refine cdz sAB (abu (a:=a) (b:=b) aa aa) ?_;rw[show fN (I (cmp a b))=true from rfl,if_pos rfl];by_cases hab:a<b
  .have hc:cmp a b = -1:=by simp[cmp,hab]
   rw[Wr hab,Yk hab,fj];simp[hc];exact jY (Co _ _) (Co _ _) rfl
  .have hc:¬cmp a b<0:=by unfold cmp;rw[if_neg hab];split<;>decide
   have hlen:(dig Z b).length<=(dig Z a).length:=by
    rcases Zi (dig Z a).length (dig Z b).length with h|h
    .exact absurd (JL ax h) hab
    .exact h
   have lq:(dig Z (a/b)).length<100000000:=by
    have:a/b<=a:=Yu ..;have:=iL (Zk this ltA);omega
   have lr:(dig Z (a%b)).length<100000000:=by
    have:a%b<=a:=Nat.mod_le ..;have:=iL (Zk this ltA);omega
   by_cases h1:(dig Z b).length=1
   .have hbZ:b<Z:=by have:=xl b;rw[h1,Nat.pow_one]at this;exact this
    obtain⟨cb',hcb'⟩:∃c,cb=c+1:=⟨cb-1,aa⟩;have hn0:nth 0 (bg cb b) 0=b:=by rw[hcb',bg];simp[nth,Yk hbZ]
    have r1:=CW (h:=[(1,.data 1 ((bg ca a).map u6) true false),(1,.data 1 ((bg cb b).map u6) true false)]) (s:=1) rfl lB.symm (len:=1) (cap:=cb) (i:=0) aa aa .i64;have r2:=Jr (h:=[(1,.data 1 ((bg ca a).map u6) true false),(1,.data 1 ((bg cb b).map u6) true false)]) (s:=1) rfl lB.symm (j:=0) aa;rw[hn0]at r2
    have r1':ixV [(1,Bk.data 1 ((bg ca a).map u6) true false),(1,.data 1 ((bg cb b).map u6) true false)] 1 (.ref 1 1 0 1 cb cb) (I 0)=some (.ptr 1 1 0 cb):=r1;simp[hc,h1,r1',r2];refine cdz (ds:=[pcs a,U b]) (h':=[(1,.data 1 ((bg ca a).map u6) true true),(1,.data 1 ((bg cb b).map u6) true false)]) (by simp only[aS,sA,zK];rfl) (He (a:=a) (n:=b) aa hb aa) ?_
    rw[show fN (.tup [pcs (a/b),U (a%b:Nat)])=false from rfl];simp;refine cd (args:=[pcs (a/b)]) (uU lq) ?_ (by simp[aS,pcs]);simp;refine cd (yU (n:=a%b) (by have:=Y7 a hb;simp only[Z]at hbZ;omega)) ?_;exact jY (Co _ _) (Co _ _) rfl
   ·have h0:(dig Z b).length≠0:=fun e=>by
     have:=xl b;rw[e]at this;simp at this;omega
    have h1i:¬((dig Z b).length:Int)=1:=aa;simp[hc,h1,h1i];refine cdz sAB (OB (P:=a) (Q:=b) aa hlen (by have:=iL ltA;omega)) ?_;rw[show fN (.tup [pcs (a/b),pcs (a%b)])=false from rfl];simp;refine cd (args:=[pcs (a/b)]) (uU lq) ?_ (by simp[aS,pcs]);simp;refine cd (args:=[pcs (a%b)]) (uU lr) ?_ (by simp[aS,pcs])
    exact jY (Co _ _) (Co _ _) rfl
end Go.Vm
