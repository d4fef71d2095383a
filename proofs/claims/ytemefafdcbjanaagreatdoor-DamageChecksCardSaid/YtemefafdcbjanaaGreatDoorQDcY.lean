/- Lemmas. -/
import Derived.Test.YtemefafdcbjanaaGreatDoorQStr
set_option linter.unusedVariables false
set_option linter.unusedSimpArgs false
namespace Go.Vm
open Go Go.Am Go.Big
variable{j cap n b c N f:Nat}{i:Int}
def u6(n:Nat):D:=.int .u64 n
abbrev U(n:Int):V:=.d (.int .u64 n)
@[simp]theorem ahd(n:Nat):V.d (u6 n)=U n:=id rfl
def pcs(n:Nat):V:=lst u6 (dig Z n)
theorem abt(n:Nat):pcs n=lst u6 (dig Z n):=rfl
theorem Dz(l:LnQ)(h:Hp)(hl:j<l.length):ld1 h (.dptr (l.map u6) j)=some (U (nth 0 l j:Nat)):=md u6 0 l h hl
variable{h:Hp}{s e tot:Nat}{l:LnQ}{ex fr:Bool}
theorem Bl(hg:h[s]?=some (e,.data 1 (l.map u6) ex fr))(ht:tot=l.length){len:Nat}(h0:0<=i)(h1:i<len)(k:IntKind):ixV h 1 (.ref s e 0 len cap tot) (.d (.int k i))=some (.ptr s e i.toNat tot):=by simp only[ixV,dI hg];rw[if_pos ⟨by simp[ht],h0,h1⟩];simp
theorem HW(hg:h[s]?=some (e,.data 1 (l.map u6) ex fr))(ht:tot=l.length)(hj:j<l.length):ld1 h (.ptr s e j tot)=some (U (nth 0 l j:Nat)):=by
 have e1:tot=(l.map u6).length:=by simp[ht]
 simp only[ld1,dI hg,if_pos e1,List.getElem?_map,List.getElem?_eq_getElem hj,Option.map_some,dQ 0 l j hj];rfl
theorem PK(hg:h[s]?=some (e,.data 1 (l.map u6) ex false))(ht:tot=l.length)(hj:j<l.length)(x:Nat):st h 1 (.ptr s e j tot) (U x)=some (h.set s (e,.data 1 ((l.set j x).map u6) ex false)):=by
 have e1:(l.map u6).take j++[u6 x]++(l.map u6).drop (j+1)=(l.set j x).map u6:=by
  rw[Xk,Yn,if_pos aG];simp
 simp only[st,if_true,sto,dI hg,ly,toD];rw[if_pos ⟨trivial,by simp[ht],aG⟩];simp only[cw,List.length_singleton];rw[<-e1];rfl
theorem af0(hg:h[s]?=some (e,.data 1 (l.map u6) ex fr))(ht:tot=l.length){len:Nat}(h0:0<=i)(h1:i<=cap)(hlc:len<=cap):slV h 1 (.ref s e 0 len cap tot) none (some (I i))=some (.ref s e 0 i.toNat cap tot):=by simp only[slV,dI hg,boV];rw[if_pos ⟨aa,h1⟩];simp[ht,hlc]
theorem u9(hg:h[s]?=some (e,.data 1 (l.map u6) ex fr))(ht:tot=l.length){len:Nat}(h1:len<=cap)(hc:cap<=tot):bg h (.ref s e 0 len cap tot)=some (lst u6 (l.take len),h.set s (e,.data 1 (l.map u6) ex true)):=by simp only[bg,toD,dI hg];rw[if_pos ⟨by simp[ht],h1,aG⟩];simp[lst,List.map_take,cw];omega
theorem FG{h:Hp}{s e cap tot:Nat}{l:LnQ}{ex fr:Bool}(hg:h[s]?=some (e,.data 1 (l.map u6) ex fr))(ht:tot=l.length)(hc:cap<=tot)(hb:cap<1000000000000)(k:KL)(h0:Hp)(hh:h0.length=h.length):∀len,len<=cap->k (.exit 0) [.ref s e 0 (io (l.take len)).length cap tot] h->lp (bV (CX Y) h.length) [] h0 [.ref s e 0 len cap tot] h k
 | 0,hl,hk=>by
  refine ai ?_;simp[bV];simpa[io]using hk
 | len+1,hl,hk=>by
  have e1:=Bl hg ht (len:=len+1) (cap:=cap) (i:=(len:Int)) aa aa .i64;have e2:=HW hg ht (j:=len) aa;have e3:=af0 hg ht (len:=len+1) (cap:=cap) (i:=(len:Int)) aa aa aa;have e4:l.take (len+1)=l.take len++[nth 0 l len]:=by rw[dQ 0 l len aa,List.take_append_getElem]
  rw[Int.toNat_natCast]at e1 e3;refine ai ?_;by_cases h2:nth 0 l len=0
  .rw[e4,h2,ql]at hk;have ih:=FG hg ht hc hb k h0 hh len aa hk;simp(disch:=try exact ac)[bV,e1,e2,e3,h2,hh];exact ih
  .rw[e4,w8 h2]at hk;have e5:(l.take len++[nth 0 l len]).length=len+1:=by simp;omega
   rw[e5]at hk;simp(disch:=try exact ac)[bV,e1,e2,e3,h2];exact hk
theorem sY{h:Hp}(hu:(h.all fun x=>aN h.length x.2)=true){s e len tot:Nat}{l:LnQ}{ex fr:Bool}(hg:h[s]?=some (e,.data 1 (l.map u6) ex fr))(ht:tot=l.length)(hc:cap<=tot)(hb:cap<1000000000000)(hl:len<=cap):
  CI Y F.aD [.ref s e 0 len cap tot] h (.ref s e 0 (io (l.take len)).length cap tot) h:=by refine pD ?_;simp[aD];refine lo (FG hg ht hc hb _ _ rfl len hl ?_);simp;have hs:=bp hg;refine⟨ae,by simpa using hu,.inl ⟨rfl,?_⟩⟩;simp[under,hs]
theorem Pt{h:Hp}{l0:LnQ}(k:KL)(h0:Hp)(hh:h0.length=h.length):∀l:LnQ,l.length<1000000000000->k (.exit 0) [lst u6 (io l)] h->lp (bV (CX Y) h.length) [] h0 [lst u6 l] h k:=by
 intro l hb hk
 induction hn:l.length generalizing l with
 | zero=>
  have:l=[]:=Zq hn;subst this;refine ai ?_;simp[bV];exact hk
 | succ n ih=>
  obtain⟨l,x,rfl⟩:∃l' x,l=l'++[x]:=⟨l.dropLast,l.getLast (by intro e;simp[e]at hn),(List.dropLast_concat_getLast _).symm⟩;have hl:l.length=n:=by simpa using hn
  have e1:=fun h:Hp=>nU u6 (l++[x]) h (k:=.i64) (i:=(l.length:Int)) aa aG
  have e2:=fun h:Hp=>Dz (l++[x]) h (j:=l.length) ae
  have e3:=fun h:Hp=>adg u6 (l++[x]) h (i:=(l.length:Int)) aa aG ae
  have e4:nth 0 (l++[x]) l.length=x:=ae;simp only[Int.toNat_natCast,Wu]at e1 e3;rw[e4]at e2;have e5:((l++[x]).length:Int)=(l.length:Int)+1:=ae;have e6:aW (lst u6 (l++[x]))=some (I ((l.length:Int)+1)):=by rw[<-e5];rfl
  have hb2:l.length<1000000000000:=by simp at hb;omega
  refine ai ?_;by_cases hx:x=0
  .subst hx;rw[ql]at hk;simp(disch:=try exact ac)[bV,e1,e2,e3,e6,hh];exact ih l hb2 hk hl
  .rw[w8 hx]at hk;simp(disch:=try exact ac)[bV,e1,e2,e3,e6,hx];exact hk
theorem VX{h:Hp}(hu:(h.all fun x=>aN h.length x.2)=true){l:LnQ}(hb:l.length<1000000000000):CI Y F.aD [lst u6 l] h (lst u6 (io l)) h:=by refine pD ?_;simp[aD];refine lo (Pt (l0:=l) _ _ rfl l hb ?_);simp;refine⟨ae,by simpa using hu,.inl ⟨rfl,rfl⟩⟩
def RdP(h:Hp)(a:V)(l:LnQ):Prop:=aW a=some (I l.length)∧∀(t:Hp)(i:Nat),i<l.length->∃p,ixV (h++t) 1 a (I i)=some p∧ld1 (h++t) p=some (U (nth 0 l i:Nat))
theorem Pk(h:Hp)(l:LnQ):RdP h (lst u6 l) l:=by refine⟨rfl,fun t i hi=>⟨.dptr (l.map u6) i,?_,Dz l _ hi⟩⟩;have:=nU u6 l (h++t) (k:=.i64) (i:=(i:Int)) aa aa;trivial
theorem Dj{l:LnQ}{i:Nat}(h:i<n):nth 0 (l.take n) i=nth 0 l i:=by grind[nth]
theorem Cb{h:Hp}{s e len tot:Nat}{l:LnQ}{ex fr:Bool}(hg:h[s]?=some (e,.data 1 (l.map u6) ex fr))(ht:tot=l.length)(hl:len<=tot):RdP h (.ref s e 0 len cap tot) (l.take len):=by
 have e1:(l.take len).length=len:=by simp;omega
 refine⟨by simp_all,fun t i hi=>⟨.ptr s e i tot,?_,?_⟩⟩
 .have hs:=bp hg;have:=Bl (h:=h++t) (by rw[List.getElem?_append_left hs];exact hg) ht (len:=len) (cap:=cap) (i:=(i:Int)) aa aa .i64;trivial
 .have hs:=bp hg;rw[Dj aa];exact HW (h:=h++t) (by rw[List.getElem?_append_left hs];exact hg) ht aa
def pH(h:Hp)(o:LnQ):Hp:=h++[(1,.data 1 (o.map u6) true false),nnQ]
theorem zC(h:Hp)(o:LnQ):(pH h o)[h.length]?=some (1,.data 1 (o.map u6) true false):=by simp[pH]
theorem Tp(h:Hp)(o o':LnQ):(pH h o).set h.length (1,.data 1 (o'.map u6) true false)=pH h o':=by simp[pH]
@[simp]theorem Tq(h:Hp)(o:LnQ):(pH h o).length=h.length+2:=by simp[pH]
theorem Vu{s:Nat}(hbc:b<=c)(h:Nat.blt s b=true):Nat.blt s c=true:=by grind[Xc]
mutual
theorem IS{b c:Nat}(hbc:b<=c):∀v:V,under b v=true->under c v=true
 |.ref s ..,h=>Vu hbc h
 |.ptr s ..,h=>Vu hbc h
 |.agg l,h=>qQ hbc l h
 |.tup l,h=>qQ hbc l h
 | .fn _ x y,h=>by
  simp only[under,Z8]at h ⊢;exact⟨qQ hbc x h.1,qQ hbc y h.2⟩
 |.ifc _ x,h=>IS hbc x h
 |.new ..,h=>by cases h
 |.junk,_=>rfl
 |.d _,_=>rfl
 |.dptr ..,_=>rfl
 |.cut _,h=>by cases h
theorem qQ{b c:Nat}(hbc:b<=c):∀l:LwQ,jt b l=true->jt c l=true
 |[],_=>rfl
 | x::l,h=>by
  simp only[jt,Z8]at h ⊢;exact⟨IS hbc x h.1,qQ hbc l h.2⟩
end
theorem vP(hbc:b<=c){x:Bk}(h:aN b x=true):aN c x=true:=by
 cases x with
 |vars l=>exact qQ hbc l h
 |none=>rfl
 |data n cs ex fr=>rfl
theorem Np(hbc:b<=c){h:Hp}(hu:(h.all fun x=>aN b x.2)=true):(h.all fun x=>aN c x.2)=true:=by grind[vP]
variable{h:Hp}{t0 t1:V}{da db:LnQ}
theorem Px(hb:RdP h t1 db)(hsb:aK Z db){x i:Nat}(hx:x<Z)(hN:i+db.length<N)(hNb:N<1000000000000)(k:KL)(h0:Hp)(hh:h0.length=h.length+2)(T:Nat)(o0:LnQ):
  ∀(r c j:Nat)(o:LnQ),j+r=db.length->c<Z->o.length=N->aK Z o->val Z o+Z^(i+j)*(c+x*val Z (db.drop j))=T->(∀m,i+db.length<=m->nth 0 o m=nth 0 o0 m) ->
  (∀c' o',c'<Z->o'.length=N->aK Z o'->val Z o'+Z^(i+db.length)*c'=T->(∀m,i+db.length<=m->nth 0 o' m=nth 0 o0 m)->k (.exit 2) [U (c':Nat)] (pH h o')) ->
  lp (gX (CX Y) h.length (.ref h.length 1 0 N N N) (I i) (U x) t1 (I db.length)) [] h0 [U c,I j] (pH h o) k:=by
 intro r
 induction r with
 | zero=>
  intro c j o hj hc ho hs hv hf hk;have hjl:j=db.length:=aa;subst hjl;have hd:db.drop db.length=[]:=List.drop_length;rw[hd]at hv;simp only[val,Nat.mul_zero,Nat.add_zero]at hv;refine ai ?_;simp[gX]
  grind
 | succ r ih=>
  intro c j o hj hc ho hs hv hf hk;have hjl:j<db.length:=aa;obtain⟨m,hm⟩:=nmQ (i+j);rw[<-hm]at hv;have hij:m<o.length:=aa;obtain⟨y,hy2⟩:=mnQ (db.getD j 0);have hy:=hsb.getD bI j;have hw:=hs.getD bI m;have hst:=TN (B:=Z) (o:=o) (j:=m) (c:=c) (a:=x) (y:=db.getD j 0) (v:=val Z (db.drop (j+1))) hij;rw[<-qa,hv]at hst;rw[hy2]at hy hst
  obtain⟨p,hp⟩:=nmQ (x*y);have hxy:p<=999999999*999999999:=by rw[hp];exact Za (by grind[Z]) (by grind[Z])
  have hpi:(x:Int)*(y:Int)=(p:Int):=by rw[hp];simp
  rw[<-hp]at hst;have e1:((i:Int)+(j:Int))=(m:Int):=aa;have hZ:Z=1000000000:=rfl;obtain⟨w,hwd⟩:=mnQ (o.getD m 0);rw[hwd]at hst hw;obtain⟨pb,r1,r2⟩:=hb.2 [(1,.data 1 (o.map u6) true false),nnQ] j hjl;rw[show nth 0 db j=y from hy2]at r2;have r3:=Bl (zC h o) ho.symm (len:=N) (cap:=N) (i:=(m:Int)) aa aa .i64;have r4:=HW (zC h o) ho.symm hij
  have r5:=PK (zC h o) ho.symm hij ((c+w+p)%Z);rw[show nth 0 o m=w from hwd]at r4;rw[Int.toNat_natCast]at r3;rw[Tp]at r5
  change ixV (pH h o) 1 t1 (I j)=some pb at r1
  change ld1 (pH h o) pb=_ at r2
  have ih2:=ih ((c+w+p)/Z) (j+1) (o.set m ((c+w+p)%Z)) aa (by grind) (by grind) (hs.set (Y1 _ bI)) (by rw[show i+(j+1)=m+1 by omega];omega)
   (fun n hn=>by rw[<-hf n hn];simp[nth,List.getElem?_set_ne (show m≠n by omega)]) hk
  clear hst hk ih hv;obtain⟨t,ht⟩:=mnQ (c+w+p);have ht2:t<1000000000000000000+2000000000:=by simp only[hZ]at *;omega
  rw[ht]at ih2 r5;obtain⟨tm,htm⟩:=mnQ (t%Z);obtain⟨td,htd⟩:=mnQ (t/Z);rw[htm]at ih2 r5;rw[htd]at ih2;have e2:(c:Int)+((w:Int)+(p:Int))=(t:Int):=aa;have e3:((t:Int)%1000000000)=(tm:Int):=by simp only[hZ]at htm;omega
  have e4:((t:Int)/1000000000)=(td:Int):=by simp only[hZ]at htd;omega
  refine ai ?_;simp(disch:=try exact ac)[gX,r1,r2,r3,r4,e1,hpi,e2,Zw,Zv,e3,e4,r5];trivial
theorem LS(ha:RdP h t0 da)(hsa:aK Z da)(hb:RdP h t1 db)(hsb:aK Z db)(hla:da.length<100000000)(hlb:db.length<100000000)(k:KL)(h0:Hp)(hh:h0.length=h.length+2)(hN:N=da.length+db.length):
  ∀(r i:Nat)(o:LnQ),i+r=da.length->o.length=N->aK Z o->val Z o=val Z (da.take i)*val Z db->(∀m,i+db.length<=m->nth 0 o m=0) ->
  (∀o',o'.length=N->aK Z o'->val Z o'=val Z da*val Z db->k (.exit 0) [] (pH h o')) ->
  lp (gY (CX Y) h.length t1 (.ref h.length 1 0 N N N) t0 (I da.length)) [] h0 [I i] (pH h o) k:=by
 intro r
 induction r with
 | zero=>
  intro i o hi ho hs hv hf hk;refine ai ?_;have g:¬i<da.length:=aa;simp[gY,g];rw[show i=da.length by omega,Xt]at hv
  grind
 | succ r ih=>
  intro i o hi ho hs hv hf hk;have hil:i<da.length:=aa;obtain⟨pa,r1,r2⟩:=ha.2 [(1,.data 1 (o.map u6) true false),nnQ] i hil;obtain⟨x,hx⟩:=mnQ (nth 0 da i);have hxs:x<Z:=by rw[<-hx];exact hsa.getD bI i
  rw[hx]at r2
  change ixV (pH h o) 1 t0 (I i)=some pa at r1
  change ld1 (pH h o) pa=_ at r2
  have hl:=hb.1;refine ai ?_;simp(disch:=try exact ac)[gY,r1,r2,hl];refine lo (Px hb hsb hxs aa aa _ _ (Tq h o) (val Z o+Z^i*(x*val Z db)) o db.length 0 0 o aa bI ho hs ae (fun _ _=>rfl) fun c' o' hc' ho' hs' hv' hf'=>?_);simp only[kz];obtain⟨m,hm⟩:=nmQ (i+db.length)
  have hml:m<o'.length:=aa;have r3:=Bl (zC h o') ho'.symm (len:=N) (cap:=N) (i:=(m:Int)) aa aa .i64;have r5:=PK (zC h o') ho'.symm hml c';rw[Int.toNat_natCast]at r3;rw[Tp]at r5;have e1:((i:Int)+(db.length:Int))=(m:Int):=aa;have e0:nth 0 o' m=0:=by rw[hf' m aa,hf m aa]
  have hvs:=vN (B:=Z) o' m c' hml;rw[show o'.getD m 0=0 from e0]at hvs
  have ih2:=ih (i+1) (o'.set m c') aa (by grind) (hs'.set hc') (by
   rw[wS da hil,show da.getD i 0=x from hx,Nat.add_mul,<-hv]
   grind) (fun n hn=>by
   simp only[nth,Z0,List.getElem?_set_ne (show m≠n by omega)];have:=hf' n aa;rw[hf n aa]at this;exact this) hk
  clear hvs hv' ih hk;simp(disch:=try exact ac)[hl,e1,r3,r5];trivial
theorem zg(hu:(h.all fun x=>aN h.length x.2)=true)(ha:RdP h t0 da)(hsa:aK Z da)(hb:RdP h t1 db)(hsb:aK Z db)(hla:da.length<100000000)(hlb:db.length<100000000)(hN:N=da.length+db.length):
  CI Y F.bF [t0,t1] h (.new 1 ((bC N (val Z da*val Z db)).map u6) true (dig Z (val Z da*val Z db)).length N) h:=by
 refine ul ?_;have l0:=ha.1;have l1:=hb.1;have e1:((da.length:Int)+(db.length:Int))=(N:Int):=aa;simp(disch:=try exact ac)[bF,l0,l1,e1]
 have e2:h++[(1,Bk.data 1 (List.replicate N (D.int IntKind.u64 0)) true false),nnQ]=pH h (List.replicate N 0):=by
  simp[pH,u6]
 have e3:(h++[(0,Bk.none),(0,Bk.none)]).set h.length (1,Bk.data 1 (List.replicate N (D.int IntKind.u64 0)) true false)=pH h (List.replicate N 0):=by
  simp[pH,u6]
 try simp only[e3]
 try rw[e2]
 refine lo (LS ha hsa hb hsb hla hlb _ _ (Tq ..) hN da.length 0 (List.replicate N 0) aa ae (fun x hx=>by grind[bI]) (by simp[y9,val]) (fun m _=>by
  grind[nth]) fun o ho hs hv=>?_)
 simp only[kz];have ht:io (o.take N)=dig Z (val Z da*val Z db):=by rw[Zz aa,<-hv,qK ay hs]
 have hu2:((pH h o).all fun x=>aN (pH h o).length x.2)=true:=by
  have hm:(h.all fun x=>aN (pH h o).length x.2)=true:=Np ae hu;rw[pH,Y5,<-pH,hm];rfl
 have tr:=sY hu2 (zC h o) ho.symm (len:=N) (cap:=N) (Z7 _) aa (Z7 _);rw[ht]at tr;refine ik tr ?_ ae;have hol:o=bC N (val Z da*val Z db):=by rw[<-hv,<-ho];exact BX o hs
 rw[<-hol];refine⟨by simp[pH],aa,.inr (.inr (.inl ⟨h.length,1,_,N,1,o.map u6,true,by grind,Z7 _,by simp[aC,pH],rfl⟩))⟩
def trimS(n:Nat):LnQ:=if n=0 then[]else[n]
theorem Ru(n:Nat):io [n]=trimS n:=by rfl
theorem Ps(n:Nat):val Z (trimS n)=n:=by grind[trimS,val]
theorem IW(h:n<Z):aK Z (trimS n):=by
 unfold trimS;split
 .exact fun x hx=>by cases hx
 .exact fun x hx=>by grind
theorem CM(hu:(h.all fun x=>aN h.length x.2)=true)(hf:f<Z)(hf0:0<f)(ha:RdP (h++[nnQ,nnQ]) t0 da)(hsa:aK Z da)(hla:da.length<100000000)(hN:N=da.length+1):
  CI Y F.cu [t0,U f] h (.new 1 ((bC N (val Z da*f)).map u6) true (dig Z (val Z da*f)).length N) h:=by
 refine tD ?_
 have hli:∀h:Hp,fO 1 [D.int .u64 0] [(0,U f)] h=some ([u6 f],h):=fun h=>by
  rfl
 have hu2:((h++[(0,Bk.none),nnQ]).all fun x=>aN (h++[(0,Bk.none),nnQ]).length x.2)=true:=by
  rw[Y5,Np ae hu];rfl
 simp[cu,hli];have t1:=VX hu2 (l:=[f]) ae;rw[Ru]at t1;refine ik (args:=[lst u6 [f]]) t1 ?_ (by simp[lst]) (by simp[lst]);have hfl:(trimS f).length=1:=by simp[trimS,show f≠0 by omega]
 have t2:=zg hu2 ha hsa (Pk _ (trimS f)) (IW hf) hla aa (N:=N) aa;rw[Ps]at t2;simp;refine gA (e:=0) (b:=.none) t2 ae ?_;refine⟨ae,aa,.inr (.inr (.inl ⟨h.length+1,1,_,N,1,(bC N (val Z da*f)).map u6,true,by rfl,aa,by simp[aC],rfl⟩))⟩
def sP(h:Hp)(s e:Nat)(ex:Bool)(l:LnQ):Hp:=h.set s (e,.data 1 (l.map u6) ex false)
theorem rC{h:Hp}{s e:Nat}{ex:Bool}{l:LnQ}(hs:s<h.length):(sP h s e ex l)[s]?=some (e,.data 1 (l.map u6) ex false):=by simp[sP,hs]
theorem Sl{h:Hp}{s e:Nat}{ex:Bool}{l l':LnQ}:(sP h s e ex l).set s (e,.data 1 (l'.map u6) ex false)=sP h s e ex l':=by simp[sP]
@[simp]theorem af3{h:Hp}{s e:Nat}{ex:Bool}{l:LnQ}:(sP h s e ex l).length=h.length:=by simp[sP]
theorem zt{h:Hp}{s e:Nat}{ex:Bool}{l:LnQ}(hu:(h.all fun x=>aN b x.2)=true):((sP h s e ex l).all fun x=>aN b x.2)=true:=by
 rw[Z2]at hu ⊢;intro x hx;rcases Yz hx with h1|h1
 .grind
 .rw[h1];rfl
def RdS(P:Hp->Prop)(a:V)(l:LnQ):Prop:=aW a=some (I l.length)∧∀(t:Hp)(i:Nat),P t->i<l.length->∃p,ixV t 1 a (I i)=some p∧ld1 t p=some (U (nth 0 l i:Nat))
def iH(g at_:Nat)(db:LnQ):Nat->Nat->Nat->Nat->LnQ->Nat×LnQ
 |0,_,_,w,l=>(w,l)
 | r+1,k,c,w,l=>
  if nth 0 l (at_+k)<(c+g*nth 0 db k)%Z+w then iH g at_ db r (k+1) ((c+g*nth 0 db k)/Z) 1 (l.set (at_+k) (nth 0 l (at_+k)+Z-((c+g*nth 0 db k)%Z+w)))
  else iH g at_ db r (k+1) ((c+g*nth 0 db k)/Z) 0 (l.set (at_+k) (nth 0 l (at_+k)-((c+g*nth 0 db k)%Z+w)))
variable{h:Hp}{s e tot at_ g:Nat}{ex:Bool}{t1:V}{db:LnQ}
theorem PF(hs:s<h.length)(hb:RdS (fun t=>∃l,t=sP h s e ex l) t1 db)(hsb:aK Z db)(hg:g<Z)(hat:at_+db.length<tot)(ht:tot<1000000000000){len:Nat}(hlen:tot=len)(k:KL)(h0:Hp)(hh:h0.length=h.length):
  ∀(r j c w:Nat)(l:LnQ),j+r=db.length+1->c<Z->w<=1->l.length=tot->aK Z l ->
  k (.exit 0) [I ((iH g at_ db r j c w l).1:Nat)] (sP h s e ex (iH g at_ db r j c w l).2) ->
  lp (fw (CX Y) h.length (.ref s e 0 len cap tot) t1 (U g) (I at_)) [] h0 [U c,I w,I j] (sP h s e ex l) k:=by
 intro r
 induction r with
 | zero=>
  intro j c w l hj hc hw hl hsl hk;refine ai ?_;have g1:¬j<=db.length:=aa;have hl1:=hb.1;simp[fw,hl1,g1];exact hk
 | succ r ih=>
  intro j c w l hj hc hw hl hsl hk;have hjl:j<=db.length:=aa;obtain⟨m,hm⟩:=nmQ (at_+j);have hml:m<l.length:=aa;obtain⟨y,hy⟩:=mnQ (nth 0 db j);have hys:y<Z:=by rw[<-hy];exact hsb.getD bI j
  obtain⟨x,hx⟩:=mnQ (nth 0 l m);have hxs:x<Z:=by rw[<-hx];exact hsl.getD bI m
  obtain⟨p,hp⟩:=nmQ (g*y);have hxy:p<=999999999*999999999:=by rw[hp];exact Za (by grind[Z]) (by grind[Z])
  have hpi:(g:Int)*(y:Int)=(p:Int):=by rw[hp];simp
  have e1:((at_:Int)+(j:Int))=(m:Int):=aa;have hZ:Z=1000000000:=rfl;have hl1:=hb.1;have r3:=Bl (rC (e:=e) (ex:=ex) (l:=l) hs) hl.symm (len:=len) (cap:=cap) (i:=(m:Int)) aa aa .i64;have r4:=HW (rC (e:=e) (ex:=ex) (l:=l) hs) hl.symm hml;have r5:=PK (rC (e:=e) (ex:=ex) (l:=l) hs) hl.symm hml;simp only[Sl]at r5;rw[hx]at r4;rw[Int.toNat_natCast]at r3
  rw[iH,hy,<-hp,<-hm,hx]at hk;have hsm:(∀v,v<Z->aK Z (l.set m v)):=fun v hv=>hsl.set hv
  obtain⟨t,ht1⟩:=mnQ (c+p);rw[ht1]at hk;obtain⟨tm,htm⟩:=mnQ (t%Z);obtain⟨td,htd⟩:=mnQ (t/Z);rw[htm,htd]at hk;have ht2:t<1000000000000000000:=by simp only[hZ]at *;omega
  have htdZ:td<Z:=by simp only[hZ]at *;omega
  have htmZ:tm<Z:=by simp only[hZ]at *;omega
  have e3:((t:Int)%1000000000)=(tm:Int):=by simp only[hZ]at htm;omega
  have e4:((t:Int)/1000000000)=(td:Int):=by simp only[hZ]at htd;omega
  have main:∀(v:Nat)(w':Nat),v<Z->w'<=1->k (.exit 0) [I ((iH g at_ db r (j+1) td w' (l.set m v)).1:Nat)] (sP h s e ex (iH g at_ db r (j+1) td w' (l.set m v)).2) ->
    lp (fw (CX Y) h.length (.ref s e 0 len cap tot) t1 (U g) (I at_)) [] h0 [U td,I w',I (j+1:Nat)] (sP h s e ex (l.set m v)) k:=fun v w' hv hw' hk'=>
   ih (j+1) td w' (l.set m v) aa htdZ hw' (by grind) (hsm v hv) hk'
  clear ih;have e2:(c:Int)+(p:Int)=(t:Int):=aa;refine ai ?_;simp[fw,hl1,hjl];refine gv (l:=[U t]) (h:=sP h s e ex l) (fun q=>?_) ?_
  .by_cases g2:j<db.length
   .obtain⟨pb,q1,q2⟩:=hb.2 (sP h s e ex l) j ⟨l,rfl⟩ g2;rw[hy]at q2;simp(disch:=try exact ac)[g2,q1,q2,hpi,e2]
   .have hy0:nth 0 db j=0:=by simp[nth,List.getElem?_eq_none (show db.length<=j by omega)]
    rw[hy]at hy0;subst hy0;simp only[Nat.mul_zero]at hp;subst hp;obtain rfl:c=t:=aa;simp[g2]
  .simp(disch:=try exact ac)[e1,r3,r4,Zw,Zv,e3,e4];by_cases hxt:x<tm+w
   .rw[if_pos hxt]at hk;obtain⟨v,hv⟩:=mnQ (x+Z-(tm+w));rw[hv]at hk;have hvZ:v<Z:=aa;have e5:(x:Int)-tm-w<0:=aa;have e6:(x:Int)-tm-w+1000000000=v:=by simp only[hZ]at hv;omega
    have r6:=r5 v;refine gv (l:=[I v,I (1:Nat)]) (h:=sP h s e ex l) (fun q=>?_) ?_
    .simp(disch:=try exact ac)[e5,e6]
    .simp(disch:=try exact ac)[e1,r3,r6];simpa using main v 1 hvZ (Z7 _) hk
   .rw[if_neg hxt]at hk;obtain⟨v,hv⟩:=mnQ (x-(tm+w));rw[hv]at hk;have hvZ:v<Z:=aa;have e5:¬((x:Int)-tm-w<0):=aa;have e6:(x:Int)-tm-w=v:=aa;have r6:=r5 v;refine gv (l:=[I v,I (0:Nat)]) (h:=sP h s e ex l) (fun q=>?_) ?_
    .rw[e6]at e5 ⊢;simp[e5]
    .simp(disch:=try exact ac)[e1,r3,r6];simpa using main v 0 hvZ (Yr _) hk
theorem Jb(hu:(h.all fun x=>aN h.length x.2)=true)(hs:s<h.length)(hb:RdS (fun t=>∃l,t=sP h s e ex l) t1 db)(hsb:aK Z db)(hg:g<Z)(hat:at_+db.length<tot)(ht:tot<1000000000000){l:LnQ}(hl:l.length=tot)(hsl:aK Z l):
  CI Y F.dC [.ref s e 0 tot tot tot,t1,U g,I at_] (sP h s e ex l) (B (decide (0<(iH g at_ db (db.length+1) 0 0 0 l).1))) (sP h s e ex (iH g at_ db (db.length+1) 0 0 0 l).2):=by refine uO ?_;simp[dC];refine lo (PF hs hb hsb hg hat ht rfl _ _ ae (db.length+1) 0 0 0 l aa bI (Yr _) hl hsl ?_);simp;refine⟨(Zz ae).symm,?_,.inl ⟨rfl,rfl⟩⟩;exact zt hu
def qx(at_:Nat)(db:LnQ):Nat->Nat->Nat->LnQ->LnQ
 |0,_,_,l=>l
 |r+1,k,c,l=>qx at_ db r (k+1) ((c+nth 0 l (at_+k)+nth 0 db k)/Z) (l.set (at_+k) ((c+nth 0 l (at_+k)+nth 0 db k)%Z))
theorem Q7(hs:s<h.length)(hb:RdS (fun t=>∃l,t=sP h s e ex l) t1 db)(hsb:aK Z db)(hat:at_+db.length<tot)(ht:tot<1000000000000){len:Nat}(hlen:tot=len)(k:KL)(h0:Hp)(hh:h0.length=h.length):
  ∀(r j c:Nat)(l:LnQ),j+r=db.length+1->c<Z->l.length=tot->aK Z l ->
  k (.exit 0) [] (sP h s e ex (qx at_ db r j c l)) ->
  lp (iE (CX Y) h.length (.ref s e 0 len cap tot) t1 (I at_)) [] h0 [U c,I j] (sP h s e ex l) k:=by
 intro r
 induction r with
 | zero=>
  intro j c l hj hc hl hsl hk;refine ai ?_;have g1:¬j<=db.length:=aa;have hl1:=hb.1;simp[iE,hl1,g1];exact hk
 | succ r ih=>
  intro j c l hj hc hl hsl hk;have hjl:j<=db.length:=aa;obtain⟨m,hm⟩:=nmQ (at_+j);have hml:m<l.length:=aa;obtain⟨y,hy⟩:=mnQ (nth 0 db j);have hys:y<Z:=by rw[<-hy];exact hsb.getD bI j
  obtain⟨x,hx⟩:=mnQ (nth 0 l m);have hxs:x<Z:=by rw[<-hx];exact hsl.getD bI m
  have e1:((at_:Int)+(j:Int))=(m:Int):=aa;have hZ:Z=1000000000:=rfl;have hl1:=hb.1;have r3:=Bl (rC (e:=e) (ex:=ex) (l:=l) hs) hl.symm (len:=len) (cap:=cap) (i:=(m:Int)) aa aa .i64;have r4:=HW (rC (e:=e) (ex:=ex) (l:=l) hs) hl.symm hml;have r5:=PK (rC (e:=e) (ex:=ex) (l:=l) hs) hl.symm hml;simp only[Sl]at r5;rw[hx]at r4;rw[Int.toNat_natCast]at r3
  rw[qx,hy,<-hm,hx]at hk;obtain⟨t,ht1⟩:=mnQ (c+x+y);rw[ht1]at hk;obtain⟨tm,htm⟩:=mnQ (t%Z);obtain⟨td,htd⟩:=mnQ (t/Z);rw[htm,htd]at hk;have ht2:t<3000000000:=by simp only[hZ]at *;omega
  have htdZ:td<Z:=by simp only[hZ]at *;omega
  have htmZ:tm<Z:=by simp only[hZ]at *;omega
  have e3:((t:Int)%1000000000)=(tm:Int):=by simp only[hZ]at htm;omega
  have e4:((t:Int)/1000000000)=(td:Int):=by simp only[hZ]at htd;omega
  have ih2:=ih (j+1) td (l.set m tm) aa htdZ (by grind) (hsl.set htmZ) hk;have r6:=r5 tm;clear ih;refine ai ?_;simp(disch:=try exact ac)[iE,hl1,hjl,e1,r3,r4];refine gv (l:=[U t]) (h:=sP h s e ex l) (fun q=>?_) ?_
  .by_cases g2:j<db.length
   .obtain⟨pb,q1,q2⟩:=hb.2 (sP h s e ex l) j ⟨l,rfl⟩ g2;rw[hy]at q2;have e2:(c:Int)+(x:Int)+(y:Int)=(t:Int):=aa;simp(disch:=try exact ac)[g2,q1,q2,e2]
   .have hy0:nth 0 db j=0:=by simp[nth,List.getElem?_eq_none (show db.length<=j by omega)]
    rw[hy]at hy0;subst hy0;have e2:(c:Int)+(x:Int)=(t:Int):=aa;simp[g2,e2]
  .simp(disch:=try exact ac)[e1,r3,r4,Zw,Zv,e3,e4,r6];trivial
theorem Lo(hu:(h.all fun x=>aN h.length x.2)=true)(hs:s<h.length)(hb:RdS (fun t=>∃l,t=sP h s e ex l) t1 db)(hsb:aK Z db)(hat:at_+db.length<tot)(ht:tot<1000000000000){l:LnQ}(hl:l.length=tot)(hsl:aK Z l):
  CI Y F.cN [.ref s e 0 tot tot tot,t1,I at_] (sP h s e ex l) (.tup []) (sP h s e ex (qx at_ db (db.length+1) 0 0 l)):=by refine uR ?_;simp[cN];refine lo (Q7 hs hb hsb hat ht rfl _ _ ae (db.length+1) 0 0 l aa bI hl hsl ?_);simp;refine⟨(Zz ae).symm,?_,.inl ⟨rfl,rfl⟩⟩;exact zt hu
end Go.Vm
namespace Go.Big
section
variable{B:Nat}
theorem lO(l:LnQ)(i:Nat)(h:i<=l.length):val B l=val B (l.take i)+B^i*val B (l.drop i):=by have:=val_append (B:=B) (l.take i) (l.drop i);rw[Yc,Zt,Y4 h]at this;exact this
theorem VW(l:LnQ)(z:Nat):val B (l++List.replicate z 0)=val B l:=by rw[val_append,y9];simp
theorem IY(hB:0<B){l:LnQ}{n:Nat}(h:val B l<B^n):val B (l.drop n)=0:=by
 rcases Zl n l.length with h1|h1
 .have:=lO (B:=B) l n aa;rcases Zi (val B (l.drop n))with h2|h2
  .exact h2
  .have:=Zx (B^n) h2;omega
 .rw[Zd h1];rfl
variable{L lD lB x0 x1 x2 y0 y1 D v g r hi:Nat}
structure Gs(B L lD lB x0 x1 x2 y0 y1 D v hi:Nat):Prop where
 B0:0<B
 D_eq:D=lD+L*(x0+B*hi)
 v_eq:v=lB+L*(y0+B*y1)
 lDL:lD<L
 lBL:lB<L
 hx0:x0<B
 hy0:y0<B
 hy1:0<y1
 hD:D<B*v
theorem Gs.vpos(G:Gs B L lD lB x0 x1 x2 y0 y1 D v hi):L*B<=v:=by
 rw[G.v_eq]
 have h1:L*B<=L*(y0+B*y1):=Zx L (by
  have:=Zx B G.hy1;omega)
 omega
theorem Gs.pos(G:Gs B L lD lB x0 x1 x2 y0 y1 D v hi):0<v:=by have:=G.vpos;have h1:=G.lDL;have h2:0<L*B:=Yk aa G.B0;omega
theorem Gs.first(G:Gs B L lD lB x0 x1 x2 y0 y1 D v hi):D/v<=hi/y1:=by
 have hvp:=G.pos;rw[W4 G.hy1];have h1:D/v*v<=D:=Nat.div_mul_le_self D v;generalize D/v=q at *
 have h2:q*(L*(B*y1))<=q*v:=Zx q (by
  rw[G.v_eq];have:=Zx L (Nat.le_add_left (B*y1) y0);omega)
 have h3:D<L*B*(hi+1):=by
  rw[G.D_eq];have:=G.lDL;have h4:=Zx L (show x0+1+B*hi<=B*(hi+1) by rw[Zp];have:=G.hx0;omega);rw[<-Nat.mul_assoc]at h4
  have h5:L*(x0+1+B*hi)=L+L*(x0+B*hi):=by
   rw[show x0+1+B*hi=1+(x0+B*hi) by omega,Zp];simp
  omega
 have h6:q*(L*(B*y1))=L*B*(q*y1):=by
  rw[<-Nat.mul_assoc L B y1,Y3]
 have h7:L*B*(q*y1)<L*B*(hi+1):=aa;have:=Xn h7;omega
theorem Gs.far(G:Gs B L lD lB x0 x1 x2 y0 y1 D v hi)(h:B<=g):D/v<g:=by have:=(Xp G.pos).2 G.hD;omega
theorem Gs.over(G:Gs B L lD lB x0 x1 x2 y0 y1 D v hi)(he:g*y1+r=hi)(h:r*B+x0<g*y0):D/v<g:=by
 rw[Xp G.pos]
 have h1:L*(x0+1+B*hi)<=g*v:=by
  rw[G.v_eq];have h2:g*(L*(y0+B*y1))<=g*(lB+L*(y0+B*y1)):=Zx g aa
  have h3:g*(L*(y0+B*y1))=L*(g*y0+B*(g*y1)):=by
   rw[Y3 g L,Zp,Y3 g B]
  have h4:L*(x0+1+B*hi)<=L*(g*y0+B*(g*y1)):=Zx L (by
   rw[<-he,Zp,Zr B r];omega)
  omega
 have h5:L*(x0+1+B*hi)=L+L*(x0+B*hi):=by
  rw[show x0+1+B*hi=1+(x0+B*hi) by omega,Zp];simp
 have:=G.lDL;rw[G.D_eq];omega
theorem Gs.near(G:Gs B L lD lB x0 x1 x2 y0 y1 D v hi)(he:g*y1+r=hi)(hg:g<B)(h:¬(r<B∧r*B+x0<g*y0)):g*v<D+v:=by
 have h0:g*(y0+B*y1)<=x0+B*hi:=by
  rw[Zp,Y3 g B,<-he,Zp];by_cases hr:r<B
  .have:¬r*B+x0<g*y0:=fun h'=>h ⟨hr,h'⟩
   rw[Zr r B]at this;omega
  .have h1:g*y0<=B*B:=Za aa (by have:=G.hy0;omega);have h2:=Zx B (show B<=r by omega);omega
 have h1:=Zx L h0
 have h2:g*lB<L*B:=by
  have:=Za (show g<=B-1 by omega) (show lB<=L by have:=G.lBL;omega);have hL:0<L:=by have:=G.lBL;omega
  have h3:(B-1)*L+L=L*B:=by
   have:=G.B0;obtain⟨b,rfl⟩:∃b,B=b+1:=⟨B-1,aa⟩;rw[Nat.add_sub_cancel,Zr L,X7]
  omega
 have h3:g*v=g*lB+L*(g*(y0+B*y1)):=by
  rw[G.v_eq,Zp,Y3 g L]
 have h4:=G.vpos;have h5:=G.D_eq;omega
theorem Gs.le(G:Gs B L lD lB x0 x1 x2 y0 y1 D v hi)(h:g*v<D+v):g<=D/v+1:=by
 have h1:=X5 D v;have h2:=Y1 D G.pos;rcases Zl (D/v+1) g with h3|h3
 .have h4:=Zy v (show D/v+2<=g by omega);rw[Nat.add_mul,Zr (D/v) v]at h4;omega
 .exact h3
end
end Go.Big
namespace Go.Vm
open Go Go.Am Go.Big
variable{h1 h2:Hp}{a b j n2 w k cap N d:Nat}{va vb:V}{ol' al':LnQ}
theorem xl{l:LnQ}{m n v:Nat}(h:m≠n):nth 0 (l.set m v) n=nth 0 l n:=by simp[nth,List.getElem?_set_ne h]
structure Frm(l l':LnQ)(a b:Nat):Prop where
 len:l'.length=l.length
 same:∀m,m<a∨b<=m->nth 0 l' m=nth 0 l m
theorem Cv{g at_:Nat}(hg:g<Z){db:LnQ}(hsb:aK Z db):∀(r j c w:Nat)(l:LnQ),at_+j+r<=l.length->c<Z->w<=1->aK Z l->c+g*val Z (db.drop j)<Z^r ->
  Frm l (iH g at_ db r j c w l).2 (at_+j) (at_+j+r)∧aK Z (iH g at_ db r j c w l).2∧(iH g at_ db r j c w l).1<=1 ∧
  val Z (iH g at_ db r j c w l).2+Z^(at_+j)*(c+g*val Z (db.drop j)+w)=val Z l+Z^(at_+j+r)*(iH g at_ db r j c w l).1
 | 0,j,c,w,l,hl,hc,hw,hs,hT=>by
  have h0:c+g*val Z (db.drop j)=0:=by simp at hT;omega
  refine⟨⟨rfl,fun _ _=>rfl⟩,hs,hw,?_⟩;rw[h0,Zk];rfl
 | r+1,j,c,w,l,hl,hc,hw,hs,hT=>by
  obtain⟨m,hm⟩:=nmQ (at_+j);have hml:m<l.length:=aa;obtain⟨x,hx⟩:=mnQ (nth 0 l m);have hxs:x<Z:=by rw[<-hx];exact hs.getD bI m
  obtain⟨y,hy⟩:=mnQ (nth 0 db j);rw[iH,hy,<-hm,hx];have hvd:val Z (db.drop j)=y+Z*val Z (db.drop (j+1)):=by rw[qa,show db.getD j 0=y from hy]
  obtain⟨V,hV⟩:=mnQ (val Z (db.drop (j+1)));rw[hvd,hV]at hT ⊢;obtain⟨t,ht⟩:=mnQ (c+g*y);rw[ht];obtain⟨tm,htm⟩:=mnQ (t%Z);obtain⟨td,htd⟩:=mnQ (t/Z);have hdm:t=tm+Z*td:=by rw[<-htm,<-htd];exact(Xw t Z).symm
  have htmZ:tm<Z:=by rw[<-htm];exact Y1 _ bI
  rw[htm,htd]
  have hsum:c+g*(y+Z*V)=tm+Z*(td+g*V):=by
   rw[Zp,Y3 g Z,Zp];omega
  rw[hsum]at hT ⊢
  have hT2:td+g*V<Z^r:=by
   rw[Nat.pow_succ,Zr (Z^r)]at hT;have:Z*(td+g*V)<Z*Z^r:=aa;exact Xn this
  have htdZ:td<Z∨True:=.inr trivial
  have step:∀(v w':Nat),v<Z->w'<=1->v+(tm+w)=x+Z*w'->td<Z ->
    Frm l (iH g at_ db r (j+1) td w' (l.set m v)).2 (at_+j) (at_+j+(r+1))∧aK Z (iH g at_ db r (j+1) td w' (l.set m v)).2∧(iH g at_ db r (j+1) td w' (l.set m v)).1<=1 ∧
    val Z (iH g at_ db r (j+1) td w' (l.set m v)).2+Z^m*(tm+Z*(td+g*V)+w)=val Z l+Z^(m+(r+1))*(iH g at_ db r (j+1) td w' (l.set m v)).1:=by
   intro v w' hv hw' he htd2;obtain⟨⟨f1,f2⟩,i2,i3,i4⟩:=Cv hg hsb (g:=g) (at_:=at_) r (j+1) td w' (l.set m v) aG htd2 hw' (hs.set hv) (by rw[hV];exact hT2);refine⟨⟨by rw[f1];simp,fun n hn=>?_⟩,i2,i3,?_⟩
   .rw[f2 n aa,xl aa]
   .have hvs:=vN (B:=Z) l m v hml;rw[show l.getD m 0=x from hx]at hvs;rw[hV,show at_+(j+1)=m+1 by omega]at i4;rw[show m+(r+1)=m+1+r by omega];generalize val Z (iH g at_ db r (j+1) td w' (l.set m v)).2=R at *;generalize(iH g at_ db r (j+1) td w' (l.set m v)).1=W at *;generalize val Z (l.set m v)=R1 at *;generalize val Z l=R0 at *;generalize td+g*V=T at *
    rw[Nat.pow_succ Z m,Nat.mul_assoc (Z^m) Z (T+w')]at i4;generalize Z^m=P at *;have h1:P*v+P*(tm+w)=P*x+P*(Z*w'):=by rw[<-Zp,<-Zp,he]
    have h2:P*(Z*(T+w'))=P*(Z*T)+P*(Z*w'):=by rw[Zp Z,Zp]
    have h3:P*(tm+Z*T+w)=P*(tm+w)+P*(Z*T):=by rw[<-Zp];congr 1;omega
    omega
  have htd2:td<Z:=by
   have hy2:y<Z:=by rw[<-hy];exact hsb.getD bI j
   have:=Za (show g<=999999999 by simp only[Z]at hg;omega) (show y<=999999999 by simp only[Z]at hy2;omega);simp only[Z]at *;omega
  rw[<-hm]at step;by_cases hlt:x<tm+w
  .simp only[if_pos hlt];exact step _ 1 aa (Z7 _) aa htd2
  .simp only[if_neg hlt];exact step _ 0 aa (Yr _) aa htd2
theorem EA{at_:Nat}{db:LnQ}(hsb:aK Z db):∀(r j c:Nat)(l:LnQ),at_+j+r<=l.length->c<=1->aK Z l ->
  Frm l (qx at_ db r j c l) (at_+j) (at_+j+r)∧aK Z (qx at_ db r j c l) ∧
  ∃ce,val Z (qx at_ db r j c l)+Z^(at_+j+r)*(ce+val Z (db.drop (j+r)))=val Z l+Z^(at_+j)*(c+val Z (db.drop j))
 |0,j,c,l,hl,hc,hs=>⟨⟨rfl,fun _ _=>rfl⟩,hs,c,rfl⟩
 | r+1,j,c,l,hl,hc,hs=>by
  obtain⟨m,hm⟩:=nmQ (at_+j);have hml:m<l.length:=aa;obtain⟨x,hx⟩:=mnQ (nth 0 l m);have hxs:x<Z:=by rw[<-hx];exact hs.getD bI m
  obtain⟨y,hy⟩:=mnQ (nth 0 db j);have hys:y<Z:=by rw[<-hy];exact hsb.getD bI j
  rw[qx,hy,<-hm,hx];have hvd:val Z (db.drop j)=y+Z*val Z (db.drop (j+1)):=by rw[qa,show db.getD j 0=y from hy]
  obtain⟨t,ht⟩:=mnQ (c+x+y);rw[ht];obtain⟨tm,htm⟩:=mnQ (t%Z);obtain⟨td,htd⟩:=mnQ (t/Z);have hdm:t=tm+Z*td:=by rw[<-htm,<-htd];exact(Xw t Z).symm
  have htmZ:tm<Z:=by rw[<-htm];exact Y1 _ bI
  have htd1:td<=1:=by simp only[Z]at *;omega
  rw[htm,htd];obtain⟨⟨f1,f2⟩,i2,ce,i4⟩:=EA hsb (at_:=at_) r (j+1) td (l.set m tm) aG htd1 (hs.set htmZ);refine⟨⟨by rw[f1];simp,fun n hn=>?_⟩,i2,ce,?_⟩
  .rw[f2 n aa,xl aa]
  .have hvs:=vN (B:=Z) l m tm hml;rw[show l.getD m 0=x from hx]at hvs;rw[show at_+(j+1)=m+1 by omega,show j+1+r=j+(r+1) by omega]at i4;rw[show m+(r+1)=m+1+r by omega,hvd];generalize val Z (qx at_ db r (j+1) td (l.set m tm))=R at *;generalize val Z (l.set m tm)=R1 at *;generalize val Z l=R0 at *;generalize val Z (db.drop (j+1))=V at *
   rw[Nat.pow_succ Z m,Nat.mul_assoc (Z^m) Z (td+V)]at i4;generalize Z^(m+1+r)*(ce+val Z (db.drop (j+(r+1))))=Q at *;generalize Z^m=P at *;have h1:P*tm+P*(Z*td)=P*x+P*(c+y):=by rw[<-Zp,<-Zp,<-hdm,<-ht];congr 1;omega
   have h2:P*(Z*(td+V))=P*(Z*td)+P*(Z*V):=by rw[Zp Z,Zp]
   have h3:P*(c+(y+Z*V))=P*(c+y)+P*(Z*V):=by rw[<-Zp];congr 1;omega
   omega
theorem Frm.take{l l':LnQ}{a b:Nat}(h:Frm l l' a b):l'.take a=l.take a:=by
 refine List.ext_getElem (by simp[h.len]) fun i h1 h2=>?_
 simp only[Zt]at h1 h2;have:=h.same i (.inl aa);rw[dQ _ _ _ aa,dQ _ _ _ aa]at this;simpa using this
theorem Frm.drop{l l':LnQ}{a b:Nat}(h:Frm l l' a b):l'.drop b=l.drop b:=by
 refine List.ext_getElem (by simp[h.len]) fun i h1 h2=>?_
 simp only[Yy]at h1 h2;have:=h.same (b+i) (.inr aa);rw[dQ _ _ _ aa,dQ _ _ _ aa]at this;simpa using this
theorem QS{al db:LnQ}{i g:Nat}(hsa:aK Z al)(hsb:aK Z db)(hi:i+db.length<al.length)(hg:g<Z)(hD:val Z (al.drop i)<Z*val Z db)(h1:g*val Z db<val Z (al.drop i)+val Z db)(h2:val Z (al.drop i)/val Z db<=g)
  {w:Nat} {l1 l2:LnQ} (hw:(iH g i db (db.length+1) 0 0 0 al).1=w) (hl1:(iH g i db (db.length+1) 0 0 0 al).2=l1) (hl2:qx i db (db.length+1) 0 0 l1=l2) :
  (l1.length=al.length∧aK Z l1) ∧
  (w=0->aK Z l1∧l1.length=al.length∧l1.take i=al.take i∧g=val Z (al.drop i)/val Z db∧val Z (l1.drop i)=val Z (al.drop i)%val Z db) ∧
  (0<w->aK Z l2∧l2.length=al.length∧l2.take i=al.take i∧0<g∧g-1=val Z (al.drop i)/val Z db∧val Z (l2.drop i)=val Z (al.drop i)%val Z db):=by
 have hvb:=js (B:=Z) bI hsb
 have hvp:0<val Z db:=by
  rcases Zi (val Z db)with h|h
  .rw[h]at hD;simp at hD
  .exact h
 have hpow:Z^(db.length+1)=Z*Z^db.length:=by rw[Nat.pow_succ,Zr]
 have hDlt:val Z (al.drop i)<Z^(db.length+1):=by
  rw[hpow];exact Nat.lt_trans hD (Nat.mul_lt_mul_of_pos_left hvb bI)
 have htop:val Z (al.drop (i+(db.length+1)))=0:=by
  rw[<-List.drop_drop];exact IY bI hDlt
 obtain ⟨f,s1,w1,e⟩:=Cv hg hsb (db.length+1) 0 0 0 al aa bI (Yr _) hsa (by
  rw[Yo,Zk,hpow];have a1:=Zx g (show val Z db<=Z^db.length by omega);have a2:=Nat.mul_lt_mul_of_pos_right hg (show 0<Z^db.length from X6 bI);omega) (at_:=i) (g:=g)
 rw[hw,hl1]at e;rw[hl1]at f s1;rw[hw]at w1;simp only[Nat.add_zero,Yo,Zk]at e f;have len1:=f.len
 have below:∀{l:LnQ},aK Z l->l.drop (i+(db.length+1))=al.drop (i+(db.length+1))->val Z (l.drop i)<Z^(db.length+1):=fun{l} hs he=>by
  have hz:=lO (B:=Z) (l.drop i) (min (db.length+1) (l.drop i).length) (Nat.min_le_right ..);by_cases hc:db.length+1<=(l.drop i).length
  .rw[Y4 hc,List.drop_drop,he,htop,Nat.mul_zero,Nat.add_zero]at hz;rw[hz];have:=js (B:=Z) bI ((hs.drop i).take (db.length+1));rw[Zt,Y4 hc]at this;exact this
  .have:=js (B:=Z) bI (hs.drop i);exact Z3 this (Z4 bI aa)
 have hsp:∀{l:LnQ},l.length=al.length->l.take i=al.take i->val Z l=val Z (al.take i)+Z^i*val Z (l.drop i):=fun{l} h h'=>by
  rw[<-h'];exact lO l i aa
 have hal:=lO (B:=Z) al i aa;have hdm:=X5 (val Z (al.drop i)) (val Z db);have hml:=Y1 (val Z (al.drop i)) hvp;have b1:=below s1 f.drop;rw[hsp len1 f.take,hal,Yq,Nat.mul_assoc (Z^i)]at e
 have e2:val Z (l1.drop i)+g*val Z db=val Z (al.drop i)+Z^(db.length+1)*w:=by
  have:Z^i*(val Z (l1.drop i)+g*val Z db)=Z^i*(val Z (al.drop i)+Z^(db.length+1)*w):=by rw[Zp,Zp];omega
  exact X4 (X6 bI) this
 obtain⟨D,hDe⟩:=mnQ (val Z (al.drop i));obtain⟨v,hve⟩:=mnQ (val Z db);refine⟨⟨len1,s1⟩,fun w0=>?_,fun wp=>?_⟩
 .subst w0;rw[Nat.mul_zero,Nat.add_zero]at e2
  have hq:g=val Z (al.drop i)/val Z db:=by
   refine Nat.le_antisymm ?_ h2;rw[W4 hvp];omega
  refine⟨s1,len1,f.take,hq,?_⟩;rw[<-hq]at hdm;rw[Zr]at hdm;omega
 .have hw1:w=1:=aa;subst hw1;obtain⟨f2,s2,ce,e3⟩:=EA hsb (at_:=i) (db.length+1) 0 0 l1 aa (Yr _) s1;rw[hl2]at f2 s2 e3;simp only[Nat.add_zero,Yo,Zk]at e3 f2;have hdn:db.drop (db.length+1)=[]:=Zd aa;rw[hdn,show val Z []=0 from rfl]at e3;simp only[Nat.add_zero]at e3
  have len2:l2.length=al.length:=by rw[f2.len,len1]
  have tk2:l2.take i=al.take i:=by rw[f2.take,f.take]
  have b2:=below s2 (by rw[f2.drop,f.drop]);rw[hsp len2 tk2,hsp len1 f.take,Yq,Nat.mul_assoc (Z^i)]at e3
  have e4:val Z (l2.drop i)+Z^(db.length+1)*ce=val Z (l1.drop i)+val Z db:=by
   have:Z^i*(val Z (l2.drop i)+Z^(db.length+1)*ce)=Z^i*(val Z (l1.drop i)+val Z db):=by rw[Zp,Zp];omega
   exact X4 (X6 bI) this
  have hgl:g*val Z db<=(val Z (al.drop i)/val Z db+1)*val Z db:=by
   rcases Zl (val Z (al.drop i)/val Z db+1) g with h3|h3
   .exfalso;have h4:=Zy (val Z db) (show val Z (al.drop i)/val Z db+2<=g by omega);rw[Nat.add_mul,Zr (val Z (al.drop i)/val Z db)]at h4;omega
   .exact Zy _ h3
  have hgp:0<g:=by
   rcases Zi g with h|h
   .subst h;omega
   .exact h
  have hgq:g=val Z (al.drop i)/val Z db+1:=by
   refine Nat.le_antisymm ?_ ?_
   .exact Nat.le_of_mul_le_mul_right hgl hvp
   .rw[Nat.succ_le_iff,Xp hvp];omega
  refine⟨s2,len2,tk2,hgp,aa,?_⟩;rw[hgq,Nat.add_mul,Ww,Zr (val Z (al.drop i)/val Z db)]at e2;generalize Z^(db.length+1)=P at *
  have hce:ce=1:=by
   rcases Zl ce 1 with h|h
   .have:ce=0:=aa;subst this;omega
   .rcases Zl ce 2 with h'|h'
    .omega
    .have:=Zx P h';omega
  subst hce;omega
def Hv(o:LnQ):Hp:=[(1,.data 1 (o.map u6) true false),nnQ]
theorem yc(o:LnQ):(Hv o)[0]?=some (1,.data 1 (o.map u6) true false):=rfl
theorem Tu(o o':LnQ):(Hv o).set 0 (1,.data 1 (o'.map u6) true false)=Hv o':=rfl
@[simp]theorem adF(o:LnQ):(Hv o).length=2:=rfl
theorem AE{p:LnQ}(hsp:aK Z p)(hpl:p.length<1000000000000){n N:Nat}(hn:0<n)(hnZ:n<=Z)(hN:N=p.length)(k:KL)(h0:Hp)(hh:h0.length=2) :
  ∀(i:Nat)(o:LnQ)(r:Nat),i<=p.length->o.length=N->aK Z o->r<n->val Z (p.drop i)=n*val Z (o.drop i)+r ->
  (∀o' r',o'.length=N->aK Z o'->r'<n->val Z p=n*val Z o'+r'->k (.exit 0) [U (r':Nat)] (Hv o')) ->
  lp (gZ (CX Y) (lst u6 p) (U n) (.ref 0 1 0 N N N)) [] h0 [U r,I ((i:Int)-1)] (Hv o) k
 | 0,o,r,hi,ho,hso,hr,hv,hk=>by
  refine ai ?_;simp[gZ];exact hk o r ho hso hr (by simpa using hv)
 | i+1,o,r,hi,ho,hso,hr,hv,hk=>by
  obtain⟨x,hx⟩:=mnQ (nth 0 p i);have hxs:x<Z:=by rw[<-hx];exact hsp.getD bI i
  have e1:=fun h:Hp=>nU u6 p h (k:=.i64) (i:=(i:Int)) aa aa
  have e2:=fun h:Hp=>Dz p h (j:=i) aa
  rw[hx]at e2;have r3:=Bl (yc o) ho.symm (len:=N) (cap:=N) (i:=(i:Int)) aa aa .i64;have r5:=PK (yc o) ho.symm (j:=i) aa;simp only[Tu]at r5;simp only[Int.toNat_natCast]at e1 r3;have e0:((i+1:Nat):Int)-1=(i:Int):=aa;have hZ:Z=1000000000:=rfl;obtain⟨t,ht⟩:=mnQ (r*Z+x);obtain⟨q,hq⟩:=mnQ (t/n)
  obtain⟨r2,hr2⟩:=mnQ (t%n);have hdm:n*q+r2=t:=by rw[<-hq,<-hr2];exact X5 t n
  have hr2n:r2<n:=by rw[<-hr2];exact Y1 _ hn
  have htn:t<Z*n:=by
   have:=Zy Z (show r+1<=n by omega);rw[Nat.add_mul,Zr n Z]at this;omega
  have hqZ:q<Z:=by rw[<-hq];exact Wv (by rw[Zr];exact htn)
  have htb:t<1000000000000000001:=by
   have:=Zx Z hnZ;simp only[hZ]at *;omega
  have hdr:(o.set i q).drop i=q::o.drop (i+1):=by
   rw[List.drop_set,if_neg aa,Zc];rw[Y0 (show i<o.length by omega)];rfl
  have ih:=AE hsp hpl hn hnZ hN k h0 hh i (o.set i q) r2 aa (by simpa using ho) (hso.set hqZ) hr2n (by
   rw[qa,show p.getD i 0=x from hx,hv,hdr];simp only[val];rw[Zp,Zp,Y3 n Z,Zr Z r];omega) hk
  have r6:=r5 q;have e3:(r:Int)*1000000000+(x:Int)=(t:Int):=by simp only[hZ]at ht;omega
  have e4:(t:Int)/(n:Int)=(q:Int):=by rw[<-hq];simp
  have e5:(t:Int)%(n:Int)=(r2:Int):=by rw[<-hr2];simp
  have hrb:r<1000000000:=by simp only[hZ]at hnZ;omega
  have hn0:¬((n:Int)=0):=aa;have hqb:(q:Int)<18446744073709551616:=by simp only[hZ]at hqZ;omega
  refine ai ?_;rw[e0];simp(disch:=try exact ac)[gZ,e1,e2,e3,r3,hn0,Zw,Zv,e4,e5,r6,hh];simpa using ih
theorem FH(l:LnQ):∃z,l=io l++List.replicate z 0:=by
 induction hn:l.length generalizing l with
 | zero=>
  have:l=[]:=Zq hn;subst this;exact⟨0,rfl⟩
 | succ n ih=>
  obtain⟨l,x,rfl⟩:∃l' x,l=l'++[x]:=⟨l.dropLast,l.getLast (by intro e;simp[e]at hn),(List.dropLast_concat_getLast _).symm⟩;by_cases hx:x=0
  .subst hx;rw[ql];obtain⟨z,hz⟩:=ih l (by simpa using hn);refine⟨z+1,?_⟩
   conv=>lhs;rw[hz]
   rw[List.append_assoc,List.replicate_succ']
  .rw[w8 hx];exact⟨0,ae⟩
theorem zl{l:LnQ}:l.take (io l).length=io l:=by obtain⟨z,hz⟩:=FH l;generalize io l=t at *;subst hz;rw[Ya rfl]
theorem xO(h:Hp)(n:Int):bg h (U n)=some (U n,h):=rfl
theorem bN{h:Hp}{a b:V}(ha:bg h a=some (va,h1))(hb:bg h1 b=some (vb,h2)):out (.tup [va,vb]) (.tup [a,b]) h:=
 ⟨h2,by simp only[bg,aA,ha,hb]⟩
theorem jE{h h3:Hp}{a b c vc:V}(ha:bg h a=some (va,h1))(hb:bg h1 b=some (vb,h2))(hc:bg h2 c=some (vc,h3)):out (.tup [va,vb,vc]) (.tup [a,b,c]) h:=
 ⟨h3,by simp only[bg,aA,ha,hb,hc]⟩
theorem FT{n:Nat}(ha:(dig Z a).length<100000000)(hn:0<n)(hnZ:n<=Z):CP Y F.cW [pcs a,U n] (.tup [pcs (a/n),U (a%n:Nat)]):=by
 refine uo ?_;obtain⟨p,hp⟩:=mnQ (dig Z a);have hsp:aK Z p:=by rw[<-hp];exact cI ay a
 have hval:val Z p=a:=by rw[<-hp];exact ir ay a
 rw[pcs,hp];rw[hp]at ha;simp(disch:=try exact ac)[cW];have e2:[(1,Bk.data 1 (List.replicate p.length (D.int IntKind.u64 0)) true false),nnQ]=Hv (List.replicate p.length 0):=by simp[Hv,u6]
 rw[e2];refine lo (AE hsp aa hn hnZ rfl _ _ rfl p.length (List.replicate p.length 0) 0 (Z7 _) ae (fun x hx=>by rw[Xb]at hx;rw[hx.2];exact bI) hn (by rw[List.drop_length,Zd ae];simp[val]) fun o r ho hs hr hv=>?_);simp only[kz];rw[hval]at hv
 have hq:val Z o=a/n:=by rw[hv,Nat.mul_add_div hn,Xe hr,Nat.add_zero]
 have hr2:r=a%n:=by rw[hv,Nat.mul_add_mod,Yd hr]
 have ht:io (o.take p.length)=dig Z (a/n):=by rw[Zz aa,<-hq,qK ay hs]
 have tr:=sY (h:=Hv o) rfl (yc o) ho.symm (len:=p.length) (cap:=p.length) (Z7 _) aa (Z7 _);rw[ht]at tr;refine ik tr ?_ ae
 have htl:o.take (dig Z (a/n)).length=dig Z (a/n):=by
  have h2:io o=dig Z (a/n):=by rw[<-hq,qK ay hs]
  rw[<-h2];exact zl
 have sn:=u9 (yc o) ho.symm (len:=(dig Z (a/n)).length) (cap:=p.length) (by rw[pj ay,<-hq,<-ho];exact js bI hs) (Z7 _);rw[htl]at sn;have e6:((a:Int)%(n:Int))=((a%n:Nat):Int):=ae;rw[hr2,e6];exact bN sn (xO _ _)
section
variable{H:Hp}{p7 p8 pa0 pb0 pb1:V}{n i:Nat}{L lD lB x0 x1 x2 y0 y1 D v hi:Nat}
theorem MV(G:Gs Z L lD lB x0 x1 x2 y0 y1 D v hi)(hy1Z:y1<Z)(hhi:hi<Z*Z)(hn:2<=n)(hnb:n<Z)(hib:i<Z)
  (a1:ixV H 1 p7 (I ((i:Int)+(n:Int)-2))=some pa0) (a2:ld1 H pa0=some (U x0)) (b1:ixV H 1 p8 (I ((n:Int)-2))=some pb0) (b2:ld1 H pb0=some (U y0))
  (c1:ixV H 1 p8 (I ((n:Int)-1))=some pb1) (c2:ld1 H pb1=some (U y1)) (k:KL) (h0:Hp) (hh:h0.length=H.length) :
  ∀(N g r:Nat),g<=N->g*y1+r=hi->D/v<=g->(∀g':Nat,D/v<=g'->g'*v<D+v->g'<Z->k (.exit 4) [U g'] H) ->
  lp (bA (CX Y) p7 p8 (I n) (I i)) [] h0 [U g,U r] H k:=by
 intro N
 induction N with
 | zero=>
  intro g r hg0 he hq hk;have hZ:Z=1000000000:=rfl;simp only[hZ]at hhi hnb hib;have hg:g=0:=aa;have hr:r=hi:=by rw[hg]at he;omega
  have hnear:g*v<D+v:=by have:=G.pos;rw[hg,Wp];omega
  have hgZ:g<Z:=by rw[hg];decide
  have g0:¬(1000000000:Int)<=(g:Int):=aa;have p0:(g:Int)*(y0:Int)=0:=by rw[hg];simp
  have hx0:=G.hx0;simp only[hZ]at hx0;clear he;refine ai ?_;by_cases g1:(r:Int)<1000000000
  .have g3:¬(r:Int)*1000000000+x0<0:=aa;simp(disch:=try exact ac)[bA,a1,a2,b1,b2,g0,g1,p0,g3];exact hk g hq hnear hgZ
  .simp[bA,a1,a2,b1,b2,g0,g1];exact hk g hq hnear hgZ
 | succ N ih=>
  intro g r hgN he hq hk;rcases Zi g with hg0|hgp
  .exact ih g r aa he hq hk
  obtain⟨g,rfl⟩:∃g',g=g'+1:=⟨g-1,aa⟩;have hZ:Z=1000000000:=rfl;simp only[hZ]at hhi hnb hib;have hrb:r<=hi:=aa
  have hgb:g+1<=hi:=by
   have:=Zx (g+1) G.hy1;omega
  have he2:g*y1+(r+y1)=hi:=by rw[X7]at he;omega
  have hx0:=G.hx0;have hy0:=G.hy0;have go:D/v<=g->lp (bA (CX Y) p7 p8 (I n) (I i)) [] h0 [U g,U (r+y1:Nat)] H k:=fun hq2=>ih g (r+y1) aa he2 hq2 hk
  obtain⟨p,hp⟩:=nmQ ((g+1)*y0);have hpi:((g:Int)+1)*(y0:Int)=(p:Int):=by rw[hp];simp
  by_cases g1:(1000000000:Int)<=(g:Int)+1
  .have hq2:=G.far (g:=g+1) (by simp only[hZ];omega);have g1':=g1;have:=go aa;refine ai ?_;simp(disch:=try exact ac)[bA,g1',c1,c2,hh];simpa using this
  have g1':=g1;by_cases g2:(r:Int)<1000000000
  .have hpb:p<=1000000000*1000000000:=by rw[hp];exact Za aa aa
   by_cases g3:(r:Int)*1000000000+x0<p
   .have hq2:=G.over he (by rw[<-hp];simp only[hZ];omega);have g3':=g3;have:=go aa;refine ai ?_;simp(disch:=try exact ac)[bA,a1,a2,b1,b2,g1',g2,hpi,g3',c1,c2,hh];simpa using this
   .have hn1:=G.near he (by simp only[hZ];omega) (by rw[<-hp];intro h;have:=h.2;simp only[hZ]at this;omega);have g3':=g3;refine ai ?_;simp(disch:=try exact ac)[bA,a1,a2,b1,b2,g1',g2,hpi,g3',c1,c2,hh];exact hk (g+1) hq hn1 (by simp only[hZ];omega)
  .have g2':=g2;have hn1:=G.near he (by simp only[hZ];omega) (fun h=>by have:=h.1;simp only[hZ]at this;omega);refine ai ?_;simp[bA,a1,a2,b1,b2,g1',g2',c1,c2,hh];exact hk (g+1) hq hn1 (by simp only[hZ];omega)
end
theorem F8{clr:LnQ}:∀(i:Nat)(h0 h:Hp),h.length=h0.length->(∀j,gN clr (i+j)=false->∀x,h[j]?=some x->∃b,h0[j]?=some (x.1,b)∧x.2=.none)->aR clr i h0 h=h
 | _,[],h,hl,_=>by
  have:h=[]:=Zq (by simpa using hl);subst this;rfl
 |i,x0::h0,[],hl,_=>by simp at hl
 | i,x0::h0,x::h,hl,hs=>by
  rw[pN,F8 (i+1) h0 h (by simpa using hl) (fun j hj y hy=>hs (j+1) (by rw[show i+(j+1)=i+1+j by omega];exact hj) y hy)];by_cases hc:gN clr i=true
  .rw[if_pos hc]
  .rw[if_neg hc];obtain⟨b,h1,h2⟩:=hs 0 (by simpa using hc) x rfl;simp only[List.getElem?_cons_zero,Z9]at h1;rw[h1];simp only;rw[<-h2]
theorem Hw{clr:LnQ}:∀(i:Nat)(h:Hp),(∀x∈h,offB clr x.2=true)->o6 clr i h=true
 |_,[],_=>rfl
 | i,x::h,hs=>by
  rw[wc,hs x ae,Hw (i+1) h fun y hy=>hs y (by simp[hy])];simp
def dH(g:Hp)(sa:Nat)(exa:Bool)(al ol:LnQ):Hp:=sP (sP g 4 1 true ol) sa 1 exa al
structure DvH(g:Hp)(sa:Nat)(bl:LnQ):Prop where
 len:g.length=9
 sa:sa<2
 b:g[2]?=some (1,.data 1 (bl.map u6) true false)
 c5:g[5]?=some nnQ
 c6:g[6]?=some nnQ
 off:∀x∈g,offB [5,6] x.2=true
 und:(g.all fun x=>aN 9 x.2)=true
variable{g:Hp}{sa:Nat}{exa:Bool}{al ol bl:LnQ}
theorem M6(G:DvH g sa bl):(dH g sa exa al ol).length=9:=by simp[dH,G.len]
theorem ab9(G:DvH g sa bl):(dH g sa exa al ol)[sa]?=some (1,.data 1 (al.map u6) exa false):=rC (by have:=G.sa;simp[G.len];omega)
theorem ab8(G:DvH g sa bl):(dH g sa exa al ol)[2]?=some (1,.data 1 (bl.map u6) true false):=by have:=G.sa;rw[dH,sP,List.getElem?_set_ne aa,sP,List.getElem?_set_ne aa,G.b]
theorem ab7(G:DvH g sa bl):(dH g sa exa al ol)[4]?=some (1,.data 1 (ol.map u6) true false):=by have:=G.sa;rw[dH,sP,List.getElem?_set_ne aa];exact rC (by rw[G.len];decide)
theorem aeu(hj:j=5∨j=6)(G:DvH g sa bl):(dH g sa exa al ol)[j]?=some nnQ:=by
 have:=G.sa;rw[dH,sP,List.getElem?_set_ne aa,sP,List.getElem?_set_ne aa];rcases hj with rfl|rfl
 .exact G.c5
 .exact G.c6
theorem YU(G:DvH g sa bl):(dH g sa exa al ol).set 4 (1,.data 1 (ol'.map u6) true false)=dH g sa exa al ol':=by have:=G.sa;rw[dH,sP,Wm _ _ aa];simp[dH,sP]
theorem U5(G:DvH g sa bl):∀x∈dH g sa exa al ol,offB [5,6] x.2=true:=by
 intro x hx;rcases Yz hx with h|h
 .rcases Yz h with h|h
  .exact G.off x h
  .rw[h];rfl
 .rw[h];rfl
theorem K7(G:DvH g sa bl){ex':Bool}:aR [5,6] 0 (dH g sa ex' al' ol') (dH g sa exa al ol)=dH g sa exa al ol:=by
 refine F8 0 _ _ (by rw[M6 G,M6 G]) fun j hj x hx=>?_
 have hj2:j=5∨j=6:=by
  simp only[Zk,Dk,Qk,Yb,beq_lit]at hj;by_cases h5:j=5
  .exact .inl h5
  .by_cases h6:j=6
   .exact .inr h6
   .exfalso;simp[Ne.symm h5,Ne.symm h6]at hj
 rw[aeu hj2 G]at hx;cases hx;exact⟨.none,aeu hj2 G,rfl⟩
theorem aet(G:DvH g sa bl){n:Nat}(hbl:bl.length=n+1):RdS (fun t=>∃l,t=sP (sP g 4 1 true ol) sa 1 exa l) (.ref 2 1 0 n (n+1) (n+1)) (bl.take n):=by
 have e1:(bl.take n).length=n:=by simp;omega
 refine⟨by rw[e1];rfl,?_⟩;rintro t i ⟨l,rfl⟩ hi;have hb:=ab8 (exa:=exa) (al:=l) (ol:=ol) G;refine⟨.ptr 2 1 i (n+1),?_,?_⟩
 .have:=Bl hb hbl.symm (len:=n) (cap:=n+1) (i:=(i:Int)) aa aa .i64
  rwa [Int.toNat_natCast]at this
 .rw[Dj aa];exact HW hb hbl.symm aa
theorem UP{l:LnQ}{n:Nat}(h:l.length=n+2):l.drop n=[nth 0 l n,nth 0 l (n+1)]:=by rw[Y0 aa,Y0 aa,Zd aa,dQ _ _ _ aa,dQ _ _ _ aa]
theorem aeh{al db:LnQ}{i:Nat}(hsa:aK Z al)(hsb:aK Z db)(hdl:db.length=n2+2)(hi:i+db.length<al.length)(hy:0<nth 0 db (n2+1))(hD:val Z (al.drop i)<Z*val Z db):
  Gs Z (Z^n2) (val Z ((al.drop i).take n2)) (val Z (db.take n2)) (nth 0 al (i+n2)) (nth 0 al (i+n2+1)) (nth 0 al (i+n2+2)) (nth 0 db n2) (nth 0 db (n2+1)) (val Z (al.drop i)) (val Z db) (nth 0 al (i+n2+2)*Z+nth 0 al (i+n2+1)):=by
 have hvb:=js (B:=Z) bI hsb
 have hDlt:val Z (al.drop i)<Z^(n2+3):=by
  rw[Nat.pow_succ,Zr (Z^(n2+2)),<-hdl];exact Nat.lt_trans hD (Nat.mul_lt_mul_of_pos_left hvb bI)
 have htop:val Z (al.drop (i+n2+3))=0:=by
  rw[show i+n2+3=i+(n2+3) by omega,<-List.drop_drop];exact IY bI hDlt
 have e1:=lO (B:=Z) (al.drop i) n2 (by grind);rw[List.drop_drop,qa al (i+n2),qa al (i+n2+1),qa al (i+n2+1+1),htop,Nat.mul_zero]at e1;simp only[Nat.add_zero]at e1;have e2:=lO (B:=Z) db n2 aa;rw[UP hdl]at e2;have l1:=js (B:=Z) bI ((hsa.drop i).take n2);have l2:=js (B:=Z) bI (hsb.take n2)
 rw[Zt,Y4 (by grind)]at l1;rw[Zt,Y4 aa]at l2;refine⟨bI,?_,?_,l1,l2,hsa.getD bI _,hsb.getD bI _,hy,hD⟩
 .rw[e1]
  show _=val Z ((al.drop i).take n2)+Z^n2*(al.getD (i+n2) 0+Z*(al.getD (i+n2+2) 0*Z+al.getD (i+n2+1) 0))
  grind
 trivial
variable{g:Hp}{sa:Nat}{exa:Bool}{bl db:LnQ}{n M m A:Nat}
theorem K2(G:DvH g sa bl)(hdb:bl.take n=db)(hbl:bl.length=n+1)(hsb:aK Z db)(hn:2<=n)(hnb:n<Z)(hM:M=m+n)(hMb:M<100000000)(hy:0<nth 0 db (n-1))(al0 ol0:LnQ)(k:KL) :
  ∀(i:Nat)(al ol:LnQ),i<=m->al.length=M->ol.length=m->aK Z al->aK Z ol->val Z (al.drop i)<val Z db->val Z al+val Z db*val Z ol=A->(∀j,j<i->nth 0 ol j=0) ->
  (∀al' ol',al'.length=M->ol'.length=m->aK Z al'->aK Z ol'->val Z al'<val Z db->val Z al'+val Z db*val Z ol'=A->k (.exit 2) [] (dH g sa exa al' ol')) ->
  lp (du (CX Y) (.ref sa 1 0 M M M) (.ref 2 1 0 n (n+1) (n+1)) (I n) (.ref 4 1 0 m m m)) [5,6] (dH g sa exa al0 ol0) [I ((i:Int)-1)] (dH g sa exa al ol) k
 | 0,al,ol,hi,hal,hol,hsa,hso,hD,hA,hz,hk=>by
  refine ai ?_;simp[du]
  grind
 | i+1,al,ol,hi,hal,hol,hsa,hso,hD,hA,hz,hk=>by
  have hdl:db.length=n:=by rw[<-hdb];simp;omega
  obtain⟨n2,hn2⟩:∃n2,n=n2+2:=⟨n-2,aa⟩;have hZ:Z=1000000000:=rfl
  have hD2:val Z (al.drop i)<Z*val Z db:=by
   rw[qa];have h1:=hsa.getD bI i;have h2:=Zx Z hD;rw[Nat.mul_succ]at h2;omega
  have Gq:=aeh (i:=i) hsa hsb (n2:=n2) aa aa (by rw[show n2+1=n-1 by omega];exact hy) hD2;have e0:((i+1:Nat):Int)-1=(i:Int):=aa;obtain⟨x0,hx0⟩:=mnQ (nth 0 al (i+n2));obtain⟨x1,hx1⟩:=mnQ (nth 0 al (i+n2+1));obtain⟨x2,hx2⟩:=mnQ (nth 0 al (i+n2+2));obtain⟨y0,hy0⟩:=mnQ (nth 0 db n2);obtain⟨y1,hy1⟩:=mnQ (nth 0 db (n2+1))
  have hx1Z:x1<Z:=by rw[<-hx1];exact hsa.getD bI _
  have hx2Z:x2<Z:=by rw[<-hx2];exact hsa.getD bI _
  have hy1Z:y1<Z:=by rw[<-hy1];exact hsb.getD bI _
  rw[hx0,hx1,hx2,hy0,hy1]at Gq;obtain⟨hi_,hhi⟩:=mnQ (x2*Z+x1);rw[hhi]at Gq
  have hhib:hi_<Z*Z:=by
   have:=Zy Z (show x2+1<=Z by omega);rw[Nat.add_mul]at this;omega
  have nb:∀j,j<n->nth 0 bl j=nth 0 db j:=fun j hj=>by rw[<-hdb,Dj hj]
  have rA:=fun(j:Nat)(hj:j<M)=>Bl (ab9 (exa:=exa) (al:=al) (ol:=ol) G) hal.symm (len:=M) (cap:=M) (i:=(j:Int)) aa aa .i64
  have lA:=fun(j:Nat)(hj:j<M)=>HW (ab9 (exa:=exa) (al:=al) (ol:=ol) G) hal.symm (j:=j) aa
  have rB:=fun(j:Nat)(hj:j<n)=>Bl (ab8 (exa:=exa) (al:=al) (ol:=ol) G) hbl.symm (len:=n) (cap:=n+1) (i:=(j:Int)) aa aa .i64
  have lB:=fun(j:Nat)(hj:j<n)=>HW (ab8 (exa:=exa) (al:=al) (ol:=ol) G) hbl.symm (j:=j) aa
  simp only[Int.toNat_natCast]at rA rB;have a0:=rA (i+n2) aa;have a0l:=lA (i+n2) aa;have a1:=rA (i+n2+1) aa;have a1l:=lA (i+n2+1) aa;have a2:=rA (i+n2+2) aa;have a2l:=lA (i+n2+2) aa;have b0:=rB n2 aa;have b0l:=lB n2 aa;have b1:=rB (n2+1) aa;have b1l:=lB (n2+1) aa;rw[hx0]at a0l;rw[hx1]at a1l;rw[hx2]at a2l
  rw[nb _ aa,hy0]at b0l;rw[nb _ aa,hy1]at b1l;have s0:((i+n2:Nat):Int)=(i:Int)+(n:Int)-2:=aa;have s1:((i+n2+1:Nat):Int)=(i:Int)+(n:Int)-1:=aa;have s2:((i+n2+2:Nat):Int)=(i:Int)+(n:Int):=aa;have t0:((n2:Nat):Int)=(n:Int)-2:=aa;have t1:((n2+1:Nat):Int)=(n:Int)-1:=aa;rw[s0]at a0;rw[s1]at a1;rw[s2]at a2;rw[t0]at b0;rw[t1]at b1
  have hy1p:0<y1:=Gq.hy1;have e3:(x2:Int)*1000000000+(x1:Int)=(hi_:Int):=by simp only[hZ]at hhi;omega
  obtain⟨q0,hq0⟩:=mnQ (hi_/y1);obtain⟨r0,hr0⟩:=mnQ (hi_%y1);have e4:(hi_:Int)/(y1:Int)=(q0:Int):=by rw[<-hq0];simp
  have e5:(hi_:Int)%(y1:Int)=(r0:Int):=by rw[<-hr0];simp
  have hdm:q0*y1+r0=hi_:=by rw[<-hq0,<-hr0,Zr];exact X5 hi_ y1
  have hq0b:q0<=hi_:=by rw[<-hq0];exact Yt ..
  have hn0:¬((y1:Int)=0):=aa;have hhib2:hi_<1000000000000000000:=by simp only[hZ]at hhib;omega
  have hx2b:x2<1000000000:=by simp only[hZ]at hx2Z;omega
  have hx1b:x1<1000000000:=by simp only[hZ]at hx1Z;omega
  have hnb2:n<1000000000:=by simp only[hZ]at hnb;omega
  have fst:=Gq.first
  rw[hq0]at fst;refine ai ?_;rw[e0];simp(disch:=try exact ac)[du,a1,a1l,a2,a2l,b1,b1l,e3,hn0,Zw,Zv,e4,e5];refine lo (MV Gq hy1Z hhib hn hnb aa a0 a0l b0 b0l b1 b1l _ _ rfl q0 q0 r0 (Z7 _) hdm fst fun g' hg1 hg2 hg3=>?_);simp only[kz]
  have hl9:(sP g 4 1 true ol).length=9:=by simp[G.len]
  have hu:((sP g 4 1 true ol).all fun x=>aN (sP g 4 1 true ol).length x.2)=true:=by rw[hl9];exact zt G.und
  have hsa2:sa<(sP g 4 1 true ol).length:=by rw[hl9];have:=G.sa;omega
  have rd:=aet (exa:=exa) (ol:=ol) G hbl;rw[hdb]at rd;obtain⟨w,hw⟩:=mnQ ((iH g' i db (db.length+1) 0 0 0 al).1);obtain⟨l1,hl1⟩:=mnQ ((iH g' i db (db.length+1) 0 0 0 al).2);obtain⟨l2,hl2⟩:=mnQ (qx i db (db.length+1) 0 0 l1);obtain⟨⟨k1,k2⟩,k3,k4⟩:=QS (i:=i) hsa hsb aa hg3 hD2 hg2 hg1 hw hl1 hl2
  have tk:=Jb (at_:=i) (g:=g') (tot:=M) hu hsa2 rd hsb hg3 aa aa hal hsa;rw[hw,hl1]at tk;have bk:=Lo (at_:=i) (tot:=M) (l:=l1) hu hsa2 rd hsb aa aa aa k2;rw[hl2]at bk;have hvs:=fun q=>vN (B:=Z) ol i q aa
  have hz0:ol.getD i 0=0:=hz i aa
  have go:∀(q:Nat)(l:LnQ),aK Z l->l.length=al.length->l.take i=al.take i->q=val Z (al.drop i)/val Z db->val Z (l.drop i)=val Z (al.drop i)%val Z db ->
    lp (du (CX Y) (.ref sa 1 0 M M M) (.ref 2 1 0 n (n+1) (n+1)) (I n) (.ref 4 1 0 m m m)) [5,6] (dH g sa exa al0 ol0) [I ((i:Int)-1)] (dH g sa exa l (ol.set i q)) k:=by
   intro q l c1 c2 c3 c4 c5;have hvp:=Gq.pos;have hqZ:q<Z:=by rw[c4];exact(Xp hvp).2 hD2
   refine K2 G hdb hbl hsb hn hnb hM hMb hy al0 ol0 k i l (ol.set i q) aa aa (by grind) c1 (hso.set hqZ) (by rw[c5];exact Y1 _ hvp) ?_ (fun j hj=>by rw[xl aa];exact hz j aa) hk;have h1:=hvs q;rw[hz0,Nat.mul_zero,Nat.add_zero]at h1;have h2:=lO (B:=Z) l i aa;have h3:=lO (B:=Z) al i aa
   have h4:=X5 (val Z (al.drop i)) (val Z db);rw[<-c4,<-c5]at h4;rw[c3]at h2;rw[h1,h2,<-hA,h3,<-h4,Zp,Zp,Y3 (val Z db) (Z^i)];omega
  clear hk hA hz;have r4:=fun l=>Bl (ab7 (exa:=exa) (al:=l) (ol:=ol) G) hol.symm (len:=m) (cap:=m) (i:=(i:Int)) aa aa .i64
  have r5:=fun l=>PK (ab7 (exa:=exa) (al:=l) (ol:=ol) G) hol.symm (j:=i) aa
  simp only[YU G,Int.toNat_natCast]at r4 r5;refine ik tk ?_ ae;rw[show sP (sP g 4 1 true ol) sa 1 exa l1=dH g sa exa l1 ol from rfl];rcases Zi w with w0|wp
  .obtain⟨d1,d2,d3,d4,d5⟩:=k3 w0;have gg:=go g' l1 d1 d2 d3 d4 d5;have w1:¬0<w:=aa;have r6:=r5 l1 g';have r7:=r4 l1;simp only[jn];simp(disch:=try exact ac)[w1,r7,r6];refine⟨?_,?_⟩
   .rw[clean,Hw 0 _ (U5 G)];rfl
   .rw[K7 G];exact gg
  .obtain⟨d1,d2,d3,dg,d4,d5⟩:=k4 wp;have gg:=go (g'-1) l2 d1 d2 d3 d4 d5;obtain⟨g2,hg2'⟩:=mnQ (g'-1);rw[hg2']at gg;have e6:(g':Int)-1=(g2:Int):=aa;have hg2Z:(g2:Int)<18446744073709551616:=by simp only[hZ]at hg3;omega
   have r6:=r5 l2 g2;have r7:=r4 l2;simp only[jn];simp(disch:=try exact ac)[wp,e6];refine lE (ik bk ?_ ae);rw[show sP (sP g 4 1 true ol) sa 1 exa l2=dH g sa exa l2 ol from rfl];simp(disch:=try exact ac)[r7,r6];refine⟨?_,?_⟩
   .rw[clean,Hw 0 _ (U5 G)];rfl
   .rw[K7 G];exact gg
theorem zX{n:Nat}(h:n<Z^w):bC (w+1) n=bC w n++[0]:=by
 have h1:aK Z (bC w n++[0]):=(ug w n).snoc bI
 grind[BX,IR,vA,List.length_append,dp]
theorem UE{n:Nat}(h:n<Z^w):io (bC w n)=dig Z n:=by rw[<-qK ay (ug w n),vA w n h]
theorem nK{n:Nat}(h:n<Z^w):(bC w n).take (dig Z n).length=dig Z n:=by grind[UE,zl]
theorem vt(n:Nat):n<Z^(dig Z n).length:=(pj ay).1 (Z7 _)
theorem iC{n:Nat}(h:n<Z^k):(dig Z n).length<=k:=(pj ay).2 h
theorem Uh{n:Nat}(h:Z^k<=n):k<(dig Z n).length:=by grind[pj,ay]
theorem U1{n:Nat}(h:0<n):Z^((dig Z n).length-1)<=n:=by
 rcases Zl n (Z^((dig Z n).length-1))with h1|h1
 .have:=iC h1
  grind[Z]
 omega
theorem NA{n:Nat}(h:(dig Z n).length=k+1):Z^k*nth 0 (dig Z n) k<=n∧n<Z^k*(nth 0 (dig Z n) k+1)∧0<nth 0 (dig Z n) k:=by
 have e:=lO (B:=Z) (dig Z n) k aa;rw[ir ay,Y0 aa,Zd aa]at e;have hn:nth 0 (dig Z n) k=(dig Z n)[k]:=dQ _ _ _ aa;rw[<-hn]at e;simp only[val,Nat.mul_zero,Nat.add_zero]at e;have l:=js (B:=Z) bI ((cI ay n).take k);rw[Zt,Y4 aa]at l
 refine⟨aa,by grind,?_⟩;rcases Zi (nth 0 (dig Z n) k)with h0|h0
 .rw[h0,Nat.mul_zero,Nat.add_zero]at e;have:=iC (n:=n) (k:=k) aa;omega
 omega
theorem QP{q y f:Nat}(h:(dig Z q).length=k+1)(hy:nth 0 (dig Z q) k=y)(hf:Z/(y+1)=f)(hk:1<=k):0<f∧f<Z∧q*f<Z^(k+1):=by
 obtain⟨h1,h2,h3⟩:=NA h;rw[hy]at h1 h2 h3;have hyZ:y<Z:=by rw[<-hy];exact(cI ay q).getD bI k
 have hf0:0<f:=by rw[<-hf];exact Wj aa aa
 have hfy:f*(y+1)<=Z:=by rw[<-hf];exact Nat.div_mul_le_self ..
 refine⟨hf0,?_,?_⟩
 .have:=Zx f (show 2<=y+1 by omega);omega
 .have h4:q*f<Z^k*(y+1)*f:=Nat.mul_lt_mul_of_pos_right h2 hf0;have h5:Z^k*(y+1)*f=Z^k*(f*(y+1)):=by rw[Nat.mul_assoc,Zr (y+1)]
  have h6:=Zx (Z^k) hfy;rw[Nat.pow_succ];omega
theorem Ja{l:LnQ}(h:aK Z l):l.take (dig Z (val Z l)).length=dig Z (val Z l):=by grind[qK,ay,zl]
theorem Wg{α:Type}{l:List α}{i:Nat}{x:α}(h:l[i]?=some x):l.set i x=l:=by
 refine Yh fun j=>?_
 by_cases hj:j=i
 .grind
 .rw[List.getElem?_set_ne (Ne.symm hj)]
variable{P Q n p f M W9 sa:Nat}{exa:Bool}{hA:Hp}
theorem AT(hn:(dig Z Q).length=n)(h2:2<=n)(hp:(dig Z P).length=p)(hnp:n<=p)(hpb:p<10000000)(f0:0<f)(fZ:f<Z)(fQ:Q*f<Z^n)(hVe:W9=P*f)(hM:(dig Z W9).length+1=M)(hMp:p<M)
  (A9:hA.length=9) (Au:(hA.all fun x=>aN 9 x.2)=true) (Ao:∀x∈hA,offB [5,6] x.2=true) (A2:hA[2]?=some nnQ) (A4:hA[4]?=some nnQ) (A5:hA[5]?=some nnQ) (A6:hA[6]?=some nnQ) (sa2:sa<2) (Aa:hA[sa]?=some (1,.data 1 ((bC M W9).map u6) exa false)) :
  cai (CX Y).i hA (V.fn F.cu [] []) [lst u6 (dig Z Q),V.d (D.int IntKind.u64 ↑f)] 2
      fun v10 h=>
      bnd (aW v10) fun v11=>
       lp (jW (CX Y) (lst u6 (dig Z P))) [] h [.ref sa 1 0 M M M] h
        (exK
         [(Exit.exit 0,fun l12 h=>
           bnd (aW (ge l12 0)) fun v13=>
            bnd (biI BinOp.sub v13 v11) fun v14=>
             mkS 4 8 [D.int IntKind.u64 0] h v14 v14 fun v15 h=>
              bnd (aW (ge l12 0)) fun v16=>
               bnd (biI BinOp.sub v16 v11) fun v17=>
                bnd (biI BinOp.sub v17 (V.d (D.int IntKind.i64 1))) fun v18=>
                 lp (du (CX Y) (ge l12 0) v10 v11 v15) [5,6] h [v18] h
                  (exK
                   [(Exit.exit 2,fun l19 h=>
                     cai (CX Y).i h (V.fn F.aD [] []) [ge l12 0] 7 fun v20 h=>
                      cal (CX Y).p h (V.fn F.cW [] [])
                       [v20,V.d (D.int IntKind.u64 ↑f)] fun v21 h=>
                       ext v21 0 fun v22=>
                        ext v21 1 fun v23=>
                         cai (CX Y).i h (V.fn F.aD [] []) [v15] 8 fun v24 h=>
                          out (V.tup [lst u6 (dig Z (P/Q)),lst u6 (dig Z (P%Q))])
                           (V.tup [v24,v22]) h)]))]):=by
 have hQ1:Z^(n-1)<=Q:=by
  rw[<-hn];refine U1 ?_;rcases Zi Q with h|h
  .subst h;rw[show(dig Z 0).length=0 from rfl]at hn;omega
  .exact h
 have hQf:(dig Z (Q*f)).length=n:=by
  have h1:=iC fQ;have h3:=Uh (n:=Q*f) (k:=n-1) (Zu hQ1 (Y8 Q f0));omega
 have hQfs:Q*f<Z^(n+1):=Z3 fQ (Z4 bI aa);have sc:=CM (h:=hA) (t0:=lst u6 (dig Z Q)) (da:=dig Z Q) (f:=f) (N:=n+1) (by grind) fZ f0 (Pk _ _) (cI ay Q) aa aa;rw[ir ay,hQf]at sc;refine gA (e:=0) (b:=.none) sc A2 ?_;have hbl:(bC (n+1) (Q*f)).length=n+1:=dp ..
 have hdb:(bC (n+1) (Q*f)).take n=dig Z (Q*f):=by
  have:=nK hQfs
  rwa [hQf]at this
 obtain⟨bl,hble⟩:=mnQ (bC (n+1) (Q*f));rw[hble]at hbl hdb;rw[hble,List.length_map,hbl];obtain⟨g,hg⟩:=mnQ (hA.set 2 (0+1,.data 1 (bl.map u6) true false));rw[hg]
 have G:DvH g sa bl:=by
  rw[<-hg];refine⟨by grind,sa2,by grind,by grind,by grind,fun x hx=>?_,?_⟩
  .rcases Yz hx with h|h
   .grind
   .rw[h];rfl
  .exact zt (s:=2) (e:=1) Au
 have g4:g[4]?=some nnQ:=by rw[<-hg];simp[A4]
 have ga:g[sa]?=some (1,.data 1 ((bC M W9).map u6) exa false):=by rw[<-hg,List.getElem?_set_ne aa];exact Aa
 have hVp:p<=(dig Z W9).length:=aa
 have hMp1:M<=p+2:=by
  have:W9<Z^(p+1):=by
   rw[hVe,Nat.pow_succ];have:=vt P;rw[hp]at this;exact Nat.mul_lt_mul_of_lt_of_lt this fZ
  have:=iC this;omega
 obtain⟨m,hm⟩:∃m,M=m+n:=⟨M-n,aa⟩;have lP:aW (lst u6 (dig Z P))=some (I (dig Z P).length):=rfl;have c1:¬((M:Int)<=((dig Z P).length:Int)):=aa;have c2:(M:Int)-(n:Int)=(m:Int):=aa;simp;refine lo (ai ?_);simp(disch:=try exact ac)[jW,lP,c1,c2,g4]
 have hd:g.set 4 (1,Bk.data 1 (List.replicate m (D.int IntKind.u64 0)) true false)=dH g sa exa (bC M W9) (List.replicate m 0):=by
  have e1:(List.replicate m (D.int IntKind.u64 0))=(List.replicate m 0).map u6:=by simp[u6]
  have e2:(sP g 4 1 true (List.replicate m 0))[sa]?=some (1,.data 1 ((bC M W9).map u6) exa false):=by
   rw[sP,List.getElem?_set_ne aa];exact ga
  show _=(sP g 4 1 true (List.replicate m 0)).set sa (1,.data 1 ((bC M W9).map u6) exa false)
  rw[Wg e2,e1];rfl
 rw[hd]
 have hWlt:W9<Z^(m+(n-1)):=by
  have:=vt W9
  rwa [show(dig Z W9).length=m+(n-1) by omega]at this
 have hWM:W9<Z^M:=Z3 hWlt (Z4 bI aa);have hQfv:val Z (dig Z (Q*f))=Q*f:=ir ay _;have hZ:Z=1000000000:=rfl
 refine lo (K2 (A:=W9) (n:=n) (M:=M) (m:=m) G hdb hbl (cI ay _) h2 aa hm aa (NA (n:=Q*f) (k:=n-1) aa).2.2 _ _ _ m (bC M W9) (List.replicate m 0) (Z7 _) (dp ..) ae (ug M W9) (fun x hx=>by grind) ?_ (by grind[y9,vA]) (fun j hj=>by grind[dQ]) fun al' ol' q1 q2 q3 q4 q5 q6=>?_)
 .have e1:=lO (B:=Z) (bC M W9) m (by grind[dp]);rw[vA _ _ hWM]at e1;rw[Yq]at hWlt;rw[hQfv];have h3:Z^m*val Z ((bC M W9).drop m)<Z^m*Z^(n-1):=aa;have h4:=Xn h3;have h5:=Y8 Q f0;omega
 .simp only[kz];rw[hQfv]at q5 q6
  have hQ0:0<Q:=by
   have:=X6 (n:=n-1) bI;omega
  have hQf0:0<Q*f:=Yk hQ0 f0
  have hq:val Z ol'=P/Q:=by
   have:(P*f)/(Q*f)=val Z ol':=by
    rw[<-hVe,<-q6,Yf _ _ hQf0,Xe q5,Zk]
   rw[<-this,Nat.mul_div_mul_right _ _ f0]
  have hr:val Z al'=f*(P%Q):=by
   have:(P*f)%(Q*f)=val Z al':=by
    rw[<-hVe,<-q6,Xo,Yd q5]
   rw[<-this,Nat.mul_mod_mul_right,Zr]
  have l9:(dH g sa exa al' ol').length=9:=M6 G;have hu:((dH g sa exa al' ol').all fun x=>aN (dH g sa exa al' ol').length x.2)=true:=by rw[l9];exact zt (zt G.und)
  have ha:=ab9 (exa:=exa) (al:=al') (ol:=ol') G;have tr:=sY hu ha q1.symm (len:=M) (cap:=M) (Z7 _) aa (Z7 _);have hta:io (al'.take M)=dig Z (val Z al'):=by rw[Zz aa,qK ay q3]
  rw[hta]at tr;refine ik tr ?_ ae
  have hla:(dig Z (val Z al')).length<=M:=by
   have:=js (B:=Z) bI q3;rw[q1]at this;exact iC this
  have sn:=u9 ha q1.symm (len:=(dig Z (val Z al')).length) (cap:=M) hla (Z7 _);have htk:=Ja q3;rw[htk]at sn;obtain⟨h1,hh1⟩:=mnQ ((dH g sa exa al' ol').set sa (1,.data 1 (al'.map u6) exa true));rw[hh1]at sn;have sm:=FT (a:=val Z al') (n:=f) aa f0 aa
  refine cdz (u:=.mk) (ds:=[lst u6 (dig Z (val Z al')),U f]) (h':=h1) (by simp_all[aA]) sm ?_;rw[show dD (.tup [pcs (val Z al'/f),U (val Z al'%f:Nat)])=false from rfl];have h1o:h1[4]?=some (1,.data 1 (ol'.map u6) true false):=by rw[<-hh1,List.getElem?_set_ne aa];exact ab7 G
  have h1u:(h1.all fun x=>aN h1.length x.2)=true:=by
   have e:h1.length=9:=by rw[<-hh1,Y9,l9]
   rw[e,<-hh1,Z2];intro x hx;rcases Yz hx with h|h
   .grind
   .rw[h];rfl
  have tr2:=sY h1u h1o q2.symm (len:=m) (cap:=m) (Z7 _) aa (Z7 _);have hto:io (ol'.take m)=dig Z (P/Q):=by rw[Zz aa,<-hq,qK ay q4]
  rw[hto]at tr2
  show ext _ 0 _
  simp;refine lE (ik tr2 ?_ ae)
  have hlo:(dig Z (P/Q)).length<=m:=by
   have:=js (B:=Z) bI q4;rw[q2,hq]at this;exact iC this
  have sn2:=u9 h1o q2.symm (len:=(dig Z (P/Q)).length) (cap:=m) hlo (Z7 _);have htk2:=Ja q4;rw[hq]at htk2;rw[htk2]at sn2;have hrr:val Z al'/f=P%Q:=by rw[hr,X9 _ f0]
  rw[hrr];exact bN sn2 (Ji _ _ _)
theorem aaa{s s' e e' L n k by_ tot:Nat}{b':Bk}{old cs:LdQ}{fr:Bool}{h:Hp}{q:kkQ}{u:PU q}(hg:h[s]?=some (e,.data n old true fr))(hs':h[s']?=some (e',b'))(ht:tot=L*n)(hold:old.length=L*n)(hcs:cs.length=k*n)(hb:(L+k)*by_<=140737488355328)
  (h0:k=0->q (.ref s e 0 L L tot) h) (h1:0<k->q (.ref s' (e'+1) 0 (L+k) (L+k) (L*n+cs.length)) (h.set s' (e'+1,.data n (old++cs) false false))):rh (apV false s' n by_ (.ref s e 0 L L tot) (.d (.sl k cs)) h) q u:=by
 unfold rh apV;simp only[cellsOf];rw[if_pos hcs];unfold apC;by_cases hk:k=0
 .grind
 .rw[if_neg hk];simp only[dI hg];rw[if_pos ⟨trivial,aa,Z7 _,aa,hcs⟩,if_neg aa,if_pos hb];simp only[if_true,new,hs',Yo];rw[Zz aa];exact h1 aa
theorem Nn{s s' e len cap:Nat}{old:LnQ}{x:Nat}{ex:Bool}{h:Hp}{q:kkQ}{u:PU q}(hg:h[s]?=some (e,.data 1 (old.map u6) ex false))(hold:old.length=cap)(hl:len<cap)
  (hq:q (.ref s e 0 (len+1) cap cap) (h.set s (e,.data 1 ((old.take len++[x]++old.drop (len+1)).map u6) ex false))):rh (apV false s' 1 8 (.ref s e 0 len cap cap) (.d (.sl 1 [u6 x])) h) q u:=by
 unfold rh apV;simp only[cellsOf];rw[if_pos ae];unfold apC;rw[if_neg aa];simp only[dI hg];rw[if_pos ⟨trivial,by grind,aa,by grind,ae⟩,if_pos aa]
 simp_all
theorem Ph{s s' e e' cap:Nat}{b':Bk}{old:LnQ}{x:Nat}{h:Hp}{q:kkQ}{u:PU q}(hg:h[s]?=some (e,.data 1 (old.map u6) true false))(hs':h[s']?=some (e',b'))(hold:old.length=cap)(hb:cap<1000000000000)
  (hq:q (.ref s' (e'+1) 0 (cap+1) (cap+1) (cap+1)) (h.set s' (e'+1,.data 1 ((old++[x]).map u6) false false))):rh (apV false s' 1 8 (.ref s e 0 cap cap cap) (.d (.sl 1 [u6 x])) h) q u:=by
 refine aaa (L:=cap) (old:=old.map u6) hg hs' aa (by grind) rfl aa (fun h=>by omega) fun _=>?_
 simp only[Yj,List.length_singleton];rw[show old.map u6++[u6 x]=(old++[x]).map u6 by simp];exact hq
theorem M4{P Q:Nat}(h2:2<=(dig Z Q).length)(hle:(dig Z Q).length<=(dig Z P).length)(hb:(dig Z P).length<10000000):CP Y F.dE [pcs P,pcs Q] (.tup [pcs (P/Q),pcs (P%Q)]):=by
 refine tG ?_;obtain⟨k,hk⟩:∃k,(dig Z Q).length=k+1:=⟨(dig Z Q).length-1,aa⟩;obtain⟨y,hy⟩:=mnQ (nth 0 (dig Z Q) k);obtain⟨f,hf⟩:=mnQ (Z/(y+1));obtain⟨f0,fZ,fQ⟩:=QP hk hy hf aa;have hZ:Z=1000000000:=rfl;have hyZ:y<Z:=by rw[<-hy];exact(cI ay Q).getD bI k
 have hyb:y<1000000000:=by simp only[hZ]at hyZ;omega
 obtain⟨n,hn⟩:=mnQ ((dig Z Q).length);obtain⟨p,hp⟩:=mnQ ((dig Z P).length);have e1:=fun h:Hp=>nU u6 (dig Z Q) h (k:=.i64) (i:=(k:Int)) aa aa
 have e2:=fun h:Hp=>Dz (dig Z Q) h (j:=k) aa
 rw[hy]at e2;simp only[Int.toNat_natCast]at e1;have e3:((dig Z Q).length:Int)-1=(k:Int):=aa
 have e4:(1000000000:Int)/((y:Int)+1)=(f:Int):=by
  rw[<-hf,hZ];simp
 have y0:¬((y:Int)+1=0):=aa;have lQ:aW (pcs Q)=some (I (dig Z Q).length):=rfl;have lP:aW (pcs P)=some (I (dig Z P).length):=rfl;simp(disch:=try exact ac)[dE,lQ,e3,abt,e1,e2,y0,Zv,e4];obtain⟨W9,hW⟩:=mnQ (P*f)
 have hP1:Z^(p-1)<=P:=by
  rw[<-hp];refine U1 ?_;rcases Zi P with h|h
  .subst h;have h0:(dig Z 0).length=0:=rfl;omega
  .exact h
 have hW1:p-1<(dig Z W9).length:=Uh (by rw[<-hW];exact Zu hP1 (Y8 P f0))
 have hW2:W9<Z^(p+1):=by
  rw[<-hW,Nat.pow_succ];have:=vt P;rw[hp]at this;exact Nat.mul_lt_mul_of_lt_of_lt this fZ
 have hW3:=iC hW2
 have hli:∀h:Hp,fO 1 [D.int .u64 0] [(0,V.d (D.int IntKind.u64 0))] h=some ([u6 0],h):=fun h=>by
  rfl
 have sc:=CM (h:=[nnQ,nnQ,nnQ,nnQ,nnQ,nnQ,nnQ,nnQ,nnQ]) (t0:=lst u6 (dig Z P)) (da:=dig Z P) (f:=f) (N:=p+1) rfl fZ f0 (Pk _ _) (cI ay P) aa aa;rw[ir ay,hW]at sc;refine lE (gA (e:=0) (b:=.none) sc rfl ?_);simp[hli];have hNl:(bC (p+1) W9).length=p+1:=dp ..
 rcases Zl (dig Z W9).length (p+1)with hc|hc
 .have hl:(dig Z W9).length=p:=aa;have hWp:W9<Z^p:=by have:=vt W9;rwa [hl]at this
  have hcell:(bC (p+1) W9).take p++[0]++(bC (p+1) W9).drop (p+1)=bC (p+1) W9:=by
   rw[Zd aa,zX hWp,Ya (dp ..),Zo]
  rw[hl,hNl];refine Nn (x:=0) (ex:=true) rfl hNl aa ?_;rw[hcell];refine AT (M:=p+1) (exa:=true) hn aa hp aa aa f0 fZ (by grind) hW.symm aa aa rfl rfl ?_ rfl rfl rfl rfl aa rfl;intro x hx;simp only[List.set_cons_zero,Zs,Ym,or_false]at hx
  rcases hx with rfl|rfl|rfl|rfl|rfl|rfl|rfl|rfl|rfl<;>rfl
 .have hl:(dig Z W9).length=p+1:=aa;have hcell:bC (p+1) W9++[0]=bC (p+2) W9:=(zX hW2).symm;rw[hl,hNl];refine Ph (x:=0) (e':=0) (b':=.none) rfl rfl hNl aa ?_;rw[hcell];refine AT (M:=p+2) (exa:=false) hn aa hp aa aa f0 fZ (by grind) hW.symm aa aa rfl rfl ?_ rfl rfl rfl rfl aa rfl;intro x hx
  simp only[List.set_cons_zero,List.set_cons_succ,Zs,Ym,or_false]at hx;rcases hx with rfl|rfl|rfl|rfl|rfl|rfl|rfl|rfl|rfl<;>rfl
@[simp]theorem ac1(a:Acc)(n:Nat)(c:LdQ):a.v (n+1) c=.ref a.s (a.e+1) 0 (n+1) (n+1) c.length:=id rfl
@[simp]theorem ac2(a:Acc)(n:Nat)(c:LdQ):a.b (n+1) c=(a.e+1,.data a.n c false false):=id rfl
theorem yV(k:Nat):Z^k=10^(9*k):=by rw[Nat.pow_mul];rfl
theorem MY{n:Nat}(h2:n<18446744073709551616):CP Y F.dT [U n,I 10] (S (ah n)):=by
 refine ub ?_;have hd1:=kX n;have hd2:ndg n<=20:=cQ aa aa;have hn:=de n;by_cases hs:(n:Int)<100
 .simp(disch:=try exact ac)[dT,hs];refine cd (Jj (n:=n) aa) ?_;exact eU rfl
 .have hn0:0<n:=aa;have hit:ah n=dJ n (ndg n):=rfl;have hlo:=zF n hn0;generalize ndg n=d at *
  obtain ⟨mid,post,hm,hp,hcell⟩:∃mid post:LdQ,mid.length=d∧post.length=24-d∧List.replicate 24 (D.int .u8 0)=[]++(mid++post):=by
   refine⟨List.replicate d (.int .u8 0),List.replicate (24-d) (.int .u8 0),ae,ae,?_⟩;rw[List.replicate_append_replicate,show d+(24-d)=24 by omega];rfl
  simp[dT,hs];refine cd (ye hlo hn hd1 h2) ?_;simp only[List.replicate]at hcell;rw[hcell];rw[show[(1,Bk.data 1 ([]++(mid++post)) true false),nnQ]=cH ([]++(mid++post))from rfl];rw[G8 aG d rfl aa];simp;refine ik (h':=cH ([]++((dJ n d).map u8++post))) (aaG (pre:=[]) rfl hm aa aa hn h2) ?_ ae
  rw[G8 (by simp[bu];omega) d rfl aa];simp;rw[M7 (bs:=dJ n d) (by simp[bu];omega) aa (by simp[bu,List.take_append,Zz]) (by simp[bu])];rw[hit]
  try simp
  exact eU rfl
theorem KI{n:Nat}(h:n<18446744073709551616):CP Y F.fW [U n,I 10] (S (ah n)):=by refine uZ ?_;simp[fW];refine cd (MY h) ?_;exact eU rfl
theorem zD{n:Nat}(h:n<18446744073709551616):CP Y F.jc [U n] (S (ah n)):=by refine Ie ?_;simp[jc];refine cd (KI h) ?_;exact eU rfl
theorem wl:∀(l:LuQ)(a:Nat),pB a l=fi a l
 |[],_=>rfl
 |c::l,a=>wl l _
theorem digit_eq(c:UInt8):oC c=pT c:=by simp only[oC,pT];rw[Yp];simp
theorem Qd{n:Nat}(h:n<10000000000000000000):CP Y F.fk [S (ah n),I 10,I 64] (.tup [U n,.d (.pl .nilIface)]):=by
 have hd:=dU n;have hc:=rI n
 have hl:(ah n).length<=1000:=by
  have:=cQ (n:=n) (d:=19) aa af;rw[ah,bu];omega
 simp only[qj,Z8]at hc
 have hall:(ah n).all oC=true:=by
  rw[<-hc.1.2];congr 1;funext c;exact digit_eq c
 have ho:Y.X.orc F.fk [.string ⟨⟨ah n⟩⟩,.int .i64 10,.int .i64 64]=some (.tuple #[.int .u64 n,.nilIface]):=by
  have e:∀a,Y.X.orc F.fk a=JK a:=fun a=>by
   show(match Nat.beq F.fk F.fk with|true=>JK a|false=>none)=_
   rw[X0]
  rw[e];unfold JK;simp only;rw[if_pos ⟨trivial,trivial,vz n,hall,hl,by rw[wl,hd];exact h⟩,wl,hd]
 exact CP.orc ho (by intro x hx;simp only[Zs,Ym,or_false]at hx;rcases hx with rfl|rfl|rfl<;>rfl) rfl
theorem zo{n:Nat}(h:n<10000000000000000000):CP Y F.iO [S (ah n)] (.tup [U n,B true]):=by refine Br ?_;simp[iO];refine cd (Qd h) ?_;simp[HB];exact bN (xO _ _) rfl
theorem lV(n:Nat):ju (S (ah n))=some (I (ndg n)):=by
 show some (I (ah n).length)=_
 rw[ah,bu]
theorem B7(a b:Nat):CP Y F.fA [S (ah a),S (ah b)] (if ndg a<=18∧ndg b<=18 then .tup [U a,U b,B true]else .tup [U 0,U 0,B false]):=by
 refine Ei ?_;have la:=lV a;have lb:=lV b;by_cases h1:18<ndg a
 .rw[if_neg aa];simp(disch:=try exact ac)[fA,la,lb,h1];exact jE (xO _ _) (xO _ _) rfl
 by_cases h2:18<ndg b
 .rw[if_neg aa];simp(disch:=try exact ac)[fA,la,lb,h1,h2];exact jE (xO _ _) (xO _ _) rfl
 .rw[if_pos aa];have ha:a<10000000000000000000:=by have:=de a;have:=Z4 (n:=10) af (show ndg a<=18 by omega);omega
  have hb:b<10000000000000000000:=by have:=de b;have:=Z4 (n:=10) af (show ndg b<=18 by omega);omega
  simp(disch:=try exact ac)[fA,la,lb,h1,h2];refine cd (zo ha) ?_;simp;refine cd (zo hb) ?_;simp;exact jE (xO _ _) (xO _ _) rfl
theorem aaL(l:LuQ)(h:Hp)(k:kkQ):cvB (S l) h k=k (lst u8 l) h:=rfl
variable{h:Hp}
theorem U7{C0:Nat}(l:LuQ)(hl:l.length<=9)(hd:l.all pT=true)(k:KL)(h0 H:Hp)(hh:h0.length=H.length):∀(q p:LuQ),p++q=l->k (.exit 2) [U (fi 0 l:Nat)] H ->
  lp (pn (CX Y) h.length (lst u8 l) (I l.length)) [] h0 [U (fi 0 p:Nat),I p.length] H k
 | []=>by
  intro p hp hk;simp at hp;subst hp;refine ai ?_;simp[pn];exact hk
 | c::q=>by
  intro p hp hk;have hpl:p.length<l.length:=by subst hp;simp
  have hc:nth 0 l p.length=c:=by subst hp;simp
  have hcd:pT c=true:=by
   rw[Z2]at hd;exact hd c (by subst hp;simp)
  rw[lJ]at hcd
  have hpd:p.all pT=true:=by
   rw[Z2]at hd ⊢;exact fun x hx=>hd x (by subst hp;simp[hx])
  have e1:=fun h:Hp=>nU u8 l h (k:=.i64) (i:=(p.length:Int)) aa aa
  have e2:=fun h:Hp=>md u8 0 l h (j:=p.length) hpl
  rw[hc]at e2;simp only[Int.toNat_natCast]at e1;have hb:=tA p 0 hpd
  have hb2:fi 0 p<1000000000:=by
   have:=Z4 (n:=10) af (show p.length<=8 by omega);omega
  have e3:fi 0 (p++[c])=10*fi 0 p+(c.toNat-48):=by
   rw[uf];simp only[fi,List.foldl_cons,List.foldl_nil];omega
  have ih:=U7 (C0:=C0) l hl hd k h0 H hh q (p++[c]) (by simpa using hp) hk;rw[e3]at ih;obtain⟨t,ht⟩:=mnQ (fi 0 p);rw[ht]at ih hb2 ⊢;have e4:(10:Int)*(t:Int)+((c.toNat:Int)-48)=((10*t+(c.toNat-48):Nat):Int):=aa;obtain⟨t2,ht2⟩:=mnQ (10*t+(c.toNat-48));rw[ht2]at ih e4;have hcb:=hcd.1;have hcb2:=hcd.2;refine ai ?_
  simp(disch:=try exact ac)[pn,e1,e2,u8,e4];simpa[hh]using ih
def cuH(h:Hp)(l:LnQ):Hp:=h++[(1,.data 1 (l.map u6) true false),nnQ,nnQ]
theorem O5(h:Hp)(l:LnQ):(cuH h l)[h.length]?=some (1,.data 1 (l.map u6) true false):=by simp[cuH]
theorem ZA(h:Hp)(l l':LnQ):(cuH h l).set h.length (1,.data 1 (l'.map u6) true false)=cuH h l':=by simp[cuH]
@[simp]theorem ZB(h:Hp)(l:LnQ):(cuH h l).length=h.length+3:=by simp[cuH]
theorem U6(T:LuQ)(cap:Nat)(hL:T.length<9000000000)(k:KL)(h0:Hp)(hh:h0.length=h.length+3):∀(w n:Nat)(E:Int)(d:LnQ),(0<w->E=w)->(w=0->E<=0)->-20<=E->T.take w=dJ n w->w<=T.length->d.length+(w+8)/9<=cap->cap<1000000000000->n<10^w->aK Z d ->
  (∀d':LnQ,aK Z d'->d'.length<=cap->val Z d'=val Z d+Z^d.length*n->k (.exit 0) [.ref h.length 1 0 d'.length cap cap] (cuH h (d'++List.replicate (cap-d'.length) 0))) ->
  lp (po (CX Y) h.length (S T)) [] h0 [.ref h.length 1 0 d.length cap cap,I E] (cuH h (d++List.replicate (cap-d.length) 0)) k:=by
 intro w
 induction w using Nat.strongRecOn with
 | _ w ih=>
  intro n E d hE1 hE0 hEl hT hwT hw hcap hn hs hk;by_cases h0w:w=0
  .subst h0w;have hE:=hE0 rfl;have g:¬0<E:=aa;simp at hn;subst hn;refine ai ?_;simp[po,g];exact hk d hs aa ae
  .obtain rfl:=hE1 aa
   obtain ⟨v,u,hv1,hv9,hvw,hu,huv⟩:∃v u:Nat,1<=v∧v<=9∧w=u+v∧mx2 true 0 ((w:Int)-9)=u∧(u=0∨v=9):=by
    by_cases h9:w<=9
    .exact⟨w,0,aa,h9,aa,by simp[mx2];omega,.inl rfl⟩
    .exact⟨9,w-9,aa,aa,aa,by simp[mx2];omega,.inr rfl⟩
   have hD:=yL v u n;rw[<-hvw]at hD;have hlu:=bu u (n/10^v)
   have e1:(T.take w).drop u=dJ (n%10^v) v:=by
    rw[hT,hD,W6 hlu];have:=yK v (n%10^v) (n/10^v);rw[Xw]at this;exact this
   have e2:T.take u=dJ (n/10^v) u:=by
    have:T.take u=(T.take w).take u:=by rw[List.take_take,Y4 aa]
    rw[this,hT,hD,Ya hlu]
   have hp:0<10^v:=X6 af;have hm:=Y1 n hp
   have hZv:10^v<=Z:=by
    have:10^v<=10^9:=Z4 af hv9;exact this
   have hnu:n/10^v<10^u:=Wv (by rw[hvw,Nat.add_comm,Yq]at hn;exact hn)
   have hval:n%10^v+Z*(n/10^v)=n:=by
    have:=Xw n (10^v);rcases huv with rfl|rfl
    .rw[Nat.pow_zero]at hnu;have h3:n/10^v=0:=Nat.lt_one_iff.1 hnu;rw[h3]at this ⊢;simpa using this
    .exact this
   have hdc:d.length<cap:=aa
   have ihh:=ih u aa (n/10^v) ((w:Int)-9) (d++[n%10^v]) (fun h=>by rcases huv with h1|h1<;>omega) (fun h=>by omega) aa e2 aa aG hcap hnu (hs.snoc (Z3 hm hZv)) (fun d' h1 h2 h3=>hk d' h1 h2 (by
    rw[h3,IR,List.length_append,List.length_singleton,Nat.pow_succ,Nat.mul_assoc,X1,<-Zp,hval]))
   have hr:=wh v (n%10^v) hm;have hall:=vE v (n%10^v);have hlv:=bu v (n%10^v)
   have esl:slS (S T) (some (I u)) (some (I w))=some (S (dJ (n%10^v) v)):=by
    rw[L8 u w rfl rfl aa hwT,<-e1,List.drop_take]
   obtain⟨r,hre⟩:=mnQ (n%10^v);rw[hre]at esl hr hall hlv ihh;generalize dJ r v=L at *
   have hli:∀h:Hp,fO 1 [D.int .u64 0] [(0,U r)] h=some ([u6 r],h):=fun h=>by
    simp[fO,jm,ly,toD,u6]
   have hcell:(d++List.replicate (cap-d.length) 0).take d.length++[r]++(d++List.replicate (cap-d.length) 0).drop (d.length+1)=(d++[r])++List.replicate (cap-(d++[r]).length) 0:=by
    rw[Ya rfl]
    have:List.replicate (cap-d.length) 0=0::List.replicate (cap-d.length-1) 0:=by
     rw[<-List.replicate_succ];congr 1;omega
    rw[this,<-List.drop_drop,W6 rfl];rw[show cap-d.length-1=cap-(d++[r]).length by simp;omega];simp
   have hcl:(d++List.replicate (cap-d.length) 0).length=cap:=by simp;omega
   have aC:=O5 h (d++List.replicate (cap-d.length) 0);have gp:0<(w:Int):=aa;clear hk ih hval;refine ai ?_;simp(disch:=try exact ac)[po,gp,mxI,hu,esl];rw[aaL];simp;refine lo (U7 (C0:=0) L aa hall _ _ _ rfl L [] rfl ?_);rw[hr];simp[hli];refine Nn aC hcl hdc ?_;rw[hcell,ZA];simp(disch:=try exact ac)[hh]
   simpa using ihh
theorem SV{s by_:Nat}{z:D}{h:Hp}{i e:Nat}{b:Bk}{k:kkQ}{u:PU k}(hs:h[s]?=some (e,b))(hb:(by_:Int)*i<=281474976710656)(h1:(i:Int)<=9223372036854775807)
  (hk:k (.ref s (e+1) 0 0 i i) (h.set s (e+1,.data 1 (List.replicate i z) true false))):rh (mkS s by_ [z] h (.d (.int .i64 0)) (.d (.int .i64 i))) k u:=by unfold rh;simp only[mkS];rw[if_pos ⟨Int.le_refl _,aa,ae,hb,h1⟩];simp only[new,hs,C3,Zb,Int.toNat_natCast];exact hk
theorem sN(hu:(h.all fun x=>aN h.length x.2)=true){n:Nat}(hb:ndg n<900000000)(hcap:cap=ndg n/9+1):
  CI Y F.cX [S (ah n)] h (.new 1 ((bC cap n).map u6) true (dig Z n).length cap) h:=by
 refine Fa ?_;have hl:=lV n;have hlT:(ah n).length=ndg n:=by rw[ah,bu]
 have e1:((ndg n:Nat):Int)/9+1=(cap:Int):=aa
 have e3:(h++[(1,Bk.data 1 (List.replicate cap (D.int IntKind.u64 0)) true false),nnQ,nnQ])=cuH h ([]++List.replicate (cap-([]:LnQ).length) 0):=by
  simp[cuH,u6]
 have e4:(h++[(0,Bk.none),(0,Bk.none),(0,Bk.none)]).set h.length (1,Bk.data 1 (List.replicate cap (D.int IntKind.u64 0)) true false)=cuH h ([]++List.replicate (cap-([]:LnQ).length) 0):=by
  simp[cuH,u6]
 have hcap2:cap<1000000000000:=aa;simp(disch:=try exact ac)[cX,hl,Zv,e1];refine SV (e:=0) (b:=.none) ae aa aa ?_;simp[hl]
 try rw[e4]
 try rw[e3]
 refine lo (U6 (ah n) cap aa _ _ (ZB ..) (ndg n) n (ndg n) [] (fun _=>rfl) (fun h=>by have:=kX n;omega) aa (by rw[<-hlT,Xt];rw[hlT];rfl) aa aG hcap2 (de n) (fun x hx=>by cases hx) fun d hs hdl hv=>?_);simp only[kz];have hv':val Z d=n:=by rw[hv];simp[val]
 obtain⟨o,ho⟩:=mnQ (d++List.replicate (cap-d.length) 0);have hol:o.length=cap:=by rw[<-ho];simp;omega
 have hos:aK Z o:=by
  rw[<-ho];exact hs.append fun x hx=>by rw[Xb]at hx;rw[hx.2];exact bI
 have hov:val Z o=n:=by rw[<-ho,VW,hv']
 rw[ho];have hfix:o=bC cap n:=by rw[<-hov,<-hol];exact BX o hos
 have hu2:((cuH h o).all fun x=>aN (cuH h o).length x.2)=true:=by
  have hm:(h.all fun x=>aN (cuH h o).length x.2)=true:=Np ae hu;rw[cuH,Y5,<-cuH,hm];rfl
 have htk:o.take d.length=d:=by rw[<-ho,Ya rfl]
 have tr:=sY hu2 (O5 h o) hol.symm (len:=d.length) (cap:=cap) (Z7 _) hcap2 hdl;rw[htk,<-qK ay hs,hv']at tr;refine ik tr ?_ ae;rw[<-hfix];refine⟨by simp[cuH],by simpa using hu,.inr (.inr (.inl ⟨h.length,1,_,cap,1,o.map u6,true,by simp[hol],Z7 _,by simp[aC,cuH],rfl⟩))⟩
variable{h:Hp}{s e tot:Nat}{l:LuQ}{ex fr:Bool}
theorem ix8(hg:h[s]?=some (e,.data 1 (l.map u8) ex fr))(ht:tot=l.length){len:Nat}{i:Int}(h0:0<=i)(h1:i<len)(k:IntKind):ixV h 1 (.ref s e 0 len cap tot) (.d (.int k i))=some (.ptr s e i.toNat tot):=by grind[ixV,dI]
theorem ld8(hg:h[s]?=some (e,.data 1 (l.map u8) ex fr))(ht:tot=l.length)(hj:j<l.length):ld1 h (.ptr s e j tot)=some (.d (u8 (nth 0 l j))):=by
 have e1:tot=(l.map u8).length:=by simp[ht]
 grind[ld1,dI,dQ]
theorem st8(hg:h[s]?=some (e,.data 1 (l.map u8) ex false))(ht:tot=l.length)(hj:j<l.length)(x:UInt8):st h 1 (.ptr s e j tot) (.d (u8 x))=some (h.set s (e,.data 1 ((l.set j x).map u8) ex false)):=by
 have e1:(l.map u8).take j++[u8 x]++(l.map u8).drop (j+1)=(l.set j x).map u8:=by
  rw[Xk,Yn,if_pos (by grind)];simp
 simp only[st,if_true,sto,dI hg,ly,toD];rw[if_pos ⟨trivial,by grind,by grind⟩];simp only[cw,List.length_singleton];rw[<-e1];rfl
theorem ap8{s' cap len:Nat}{x:UInt8}{q:kkQ}{u:PU q}(hg:h[s]?=some (e,.data 1 (l.map u8) ex false))(hold:l.length=cap)(hl:len<cap)
  (hq:q (.ref s e 0 (len+1) cap cap) (h.set s (e,.data 1 ((l.take len++[x]++l.drop (len+1)).map u8) ex false))):rh (apV false s' 1 1 (.ref s e 0 len cap cap) (.d (.sl 1 [u8 x])) h) q u:=by
 unfold rh apV;simp only[cellsOf];rw[if_pos ae];unfold apC;rw[if_neg aa];simp only[dI hg];rw[if_pos ⟨trivial,by grind,aa,by grind,ae⟩,if_pos aa]
 simp_all
def s8(h:Hp)(s e:Nat)(ex:Bool)(l:LuQ):Hp:=h.set s (e,.data 1 (l.map u8) ex false)
theorem Sn{h:Hp}{s e:Nat}{ex:Bool}{l:LuQ}(hs:s<h.length):(s8 h s e ex l)[s]?=some (e,.data 1 (l.map u8) ex false):=by simp[s8,hs]
theorem Sm{h:Hp}{s e:Nat}{ex:Bool}{l l':LuQ}:(s8 h s e ex l).set s (e,.data 1 (l'.map u8) ex false)=s8 h s e ex l':=by simp[s8]
@[simp]theorem af4{h:Hp}{s e:Nat}{ex:Bool}{l:LuQ}:(s8 h s e ex l).length=h.length:=by simp[s8]
theorem TJ{l:LuQ}{m n:Nat}{v:UInt8}(hm:m<l.length):nth 0 (l.set m v) n=if m=n then v else nth 0 l n:=by grind[nth]
theorem SY{h:Hp}{s e tot:Nat}{ex:Bool}(hs:s<h.length){L:Nat}(hL:L<=tot)(htb:tot<1000000000000)(l0:LuQ)(k:KL)(h0:Hp)(hh:h0.length=h.length):
  ∀(r i:Nat)(l:LuQ),L<=2*i+r->2*i<=L+1->l.length=tot->(∀m,m<L->(m<i∨L-1-m<i)->nth 0 l m=nth 0 l0 (L-1-m))->(∀m,m<L->i<=m->i<=L-1-m->nth 0 l m=nth 0 l0 m)->(∀m,L<=m->nth 0 l m=nth 0 l0 m) ->
  (∀l':LuQ,l'.length=tot->(∀m,m<L->nth 0 l' m=nth 0 l0 (L-1-m))->(∀m,L<=m->nth 0 l' m=nth 0 l0 m)->k (.exit 0) [] (s8 h s e ex l')) ->
  lp (dG (CX Y) h.length (.ref s e 0 L cap tot)) [] h0 [I i,I ((L:Int)-1-i)] (s8 h s e ex l) k:=by
 intro r
 induction r with
 | zero=>
  intro i l hr hi hl h1 h2 h3 hk;refine ai ?_;have g:¬((i:Int)<(L:Int)-1-i):=aa;simp[dG,g];exact hk l hl (fun m hm=>h1 m hm aa) h3
 | succ r ih=>
  intro i l hr hi hl h1 h2 h3 hk;by_cases g:i+i+1<L
  .obtain⟨j,hj⟩:=mnQ (L-1-i);have g':((i:Int)<(L:Int)-1-i):=aa;have ej:(L:Int)-1-i=(j:Int):=aa;have hgt:=Sn (e:=e) (ex:=ex) (l:=l) hs;have a1:=ix8 hgt hl.symm (len:=L) (cap:=cap) (i:=(j:Int)) aa aa .i64;have a2:=ld8 hgt hl.symm (j:=j) aa;have b1:=ix8 hgt hl.symm (len:=L) (cap:=cap) (i:=(i:Int)) aa aa .i64
   have b2:=ld8 hgt hl.symm (j:=i) aa;have b3:=st8 hgt hl.symm (j:=i) aa (nth 0 l j);rw[Sm]at b3;have hgt2:=Sn (e:=e) (ex:=ex) (l:=l.set i (nth 0 l j)) hs;have c1:=ix8 hgt2 (by simpa using hl.symm) (len:=L) (cap:=cap) (i:=(j:Int)) aa aa .i64;have c3:=st8 hgt2 (by simpa using hl.symm) (j:=j) aG (nth 0 l i);rw[Sm]at c3
   simp only[Int.toNat_natCast]at a1 b1 c1
   have nn:∀m,nth 0 ((l.set i (nth 0 l j)).set j (nth 0 l i)) m=if j=m then nth 0 l i else if i=m then nth 0 l j else nth 0 l m:=fun m=>by
    rw[TJ aG,TJ aa]
   have ihh:=ih (i+1) ((l.set i (nth 0 l j)).set j (nth 0 l i)) aa aa (by simpa using hl) (fun m hm hc=>by
    rw[nn];by_cases e1:j=m
    .rw[if_pos e1,h2 i aa (Z7 _) aa];congr 1;omega
    .rw[if_neg e1];by_cases e2:i=m
     .rw[if_pos e2,h2 j aa aa aa];congr 1;omega
     .rw[if_neg e2];exact h1 m hm aa) (fun m hm hc hc2=>by
    rw[nn,if_neg aa,if_neg aa];exact h2 m hm aa aa) (fun m hm=>by
    rw[nn,if_neg aa,if_neg aa];exact h3 m hm) hk
   have e2:(j:Int)-1=(L:Int)-1-((i+1:Nat):Int):=aa;rw[<-e2]at ihh;clear hk ih;refine ai ?_;rw[ej]at g' ⊢;simp(disch:=try exact ac)[dG,g',a1,a2,b1,b2,b3,c1,c3];simpa[hh]using ihh
  .refine ai ?_;have g':¬((i:Int)<(L:Int)-1-i):=aa;simp[dG,g']
   exact hk l hl (fun m hm=>by
    by_cases hc:m<i∨L-1-m<i
    .exact h1 m hm hc
    .rw[h2 m hm aa aa];congr 1;omega) h3
theorem agH{x y:LuQ}(hl:x.length=y.length)(h:∀c,c<x.length->nth 0 x c=nth 0 y c):x=y:=by grind[List.ext_getElem,dQ]
theorem WG{h:Hp}(hu:(h.all fun x=>aN h.length x.2)=true){s e tot:Nat}{ex:Bool}(hs:s<h.length){L:Nat}(hL:L<=tot)(htb:tot<1000000000000){l:LuQ}(hl:l.length=tot):
  CI Y F.bX [.ref s e 0 L cap tot] (s8 h s e ex l) (.tup []) (s8 h s e ex ((l.take L).reverse++l.drop L)):=by
 refine rc ?_;simp(disch:=try exact ac)[bX];have e1:(L:Int)-1=(L:Int)-1-((0:Nat):Int):=aa;rw[e1]
 have:=SY (h:=h) (s:=s) (e:=e) (ex:=ex) hs (cap:=cap) hL htb l (exK [(.exit 0,fun l3 h_1=>mW (List.length (s8 h s e ex l)) (.tup []) (s8 h s e ex ((l.take L).reverse++l.drop L)) (.tup []) h_1)]) (s8 h s e ex l) ae L 0 l aa aa hl (fun m hm hc=>by omega) (fun m _ _ _=>rfl) (fun m _=>rfl) fun l' hl' h1 h2=>by
  have hE:l'=(l.take L).reverse++l.drop L:=by
   refine agH (by grind) fun c hc=>?_
   by_cases hcL:c<L
   .rw[h1 c hcL,dQ _ _ _ aa,dQ _ _ _ (by grind)]
    grind
   .rw[h2 c aa,dQ _ _ _ aa,dQ _ _ _ (by grind)]
    grind
  subst hE;simp only[kz];refine⟨(Zz ae).symm,?_,.inl ⟨rfl,rfl⟩⟩;rw[Z2]at hu ⊢;intro x hx;rcases Yz hx with h|h
  .simpa using hu x h
  .rw[h];rfl
 trivial
def tH(l:LuQ):Hp:=[(1,.data 1 (l.map u8) true false),nnQ,nnQ]
theorem RI(l:LuQ):(tH l)[0]?=some (1,.data 1 (l.map u8) true false):=rfl
@[simp]theorem afS(l:LuQ):(tH l).length=3:=rfl
theorem RH(l l':LuQ):(tH l).set 0 (1,.data 1 (l'.map u8) true false)=tH l':=rfl
theorem NC{p:LnQ}{i N:Nat}(hi:i<p.length)(hp:p.length<100000000)(hN:N<1000000000000)(k:KL)(h0:Hp)(hh:h0.length=3):∀(w j x:Nat)(bs:LuQ),
  (i+1<p.length∧j+w=9∨¬i+1<p.length∧j+w<=9∧x<10^w∧(0<w->10^(w-1)<=x))->x<1000000000->bs.length+w<=N ->
  k (.exit 2) [.ref 0 1 0 (bs.length+w) N N] (tH (bs++(dJ x w).reverse++List.replicate (N-(bs.length+w)) 0)) ->
  lp (df (CX Y) (lst u6 p) (I i)) [] h0 [.ref 0 1 0 bs.length N N,U x,I j] (tH (bs++List.replicate (N-bs.length) 0)) k
 | 0,j,x,bs=>by
  intro hc hx hb hk;have lp':aW (lst u6 p)=some (I p.length):=rfl;refine ai ?_;rcases hc with⟨g1,g2⟩|⟨g1,g2,g3,g4⟩
  .have g5:¬((j:Int)<9):=aa;simp[df,g5]
   grind[dJ]
  .have x0:x=0:=by simpa using g3
   subst x0;have g1':¬((i:Int)+1<(p.length:Int)):=aa;by_cases g5:(j:Int)<9
   .simp(disch:=try exact ac)[df,g5,lp',g1']
    grind[dJ]
   .simp[df,g5]
    grind[dJ]
 | w+1,j,x,bs=>by
  intro hc hx hb hk;have lp':aW (lst u6 p)=some (I p.length):=rfl;have g5:(j:Int)<9:=aa;have hdg:u8 (dg (x%10))=.int .u8 (48+((x%10:Nat):Int)):=Nw (Y1 _ af);obtain⟨m,hm⟩:=mnQ (x%10);obtain⟨d,hd⟩:=mnQ (x/10);have hm10:m<10:=aa;have e1:(x:Int)%10=(m:Int):=aa;have e2:(x:Int)/10=(d:Int):=aa;rw[hm]at hdg
  have hdec:(dJ x (w+1)).reverse=dg m::(dJ d w).reverse:=by rw[dJ,hd,hm];simp
  have ih:=NC hi hp hN k h0 hh w (j+1) d (bs++[dg m]) (by
   rcases hc with⟨g1,g2⟩|⟨g1,g2,g3,g4⟩
   .exact .inl ⟨g1,aa⟩
   .refine .inr ⟨g1,aa,?_,fun hw=>?_⟩
    .omega
    .have:=g4 aa;rw[<-hd,W4 af,<-Nat.pow_succ,show(w-1).succ=w+1-1 by omega];omega) aa (by grind) (by
   grind)
  have hcell:(bs++List.replicate (N-bs.length) 0).take bs.length++[dg m]++(bs++List.replicate (N-bs.length) 0).drop (bs.length+1)=(bs++[dg m])++List.replicate (N-(bs++[dg m]).length) 0:=by
   rw[Ya rfl]
   have:List.replicate (N-bs.length) (0:UInt8)=0::List.replicate (N-bs.length-1) 0:=by
    rw[<-List.replicate_succ];congr 1;omega
   rw[this,<-List.drop_drop,W6 rfl];rw[show N-bs.length-1=N-(bs++[dg m]).length by grind];simp
  have hcl:(bs++List.replicate (N-bs.length) 0).length=N:=by simp;omega
  have hli:∀h:Hp,fO 1 [D.int .u8 0] [(0,.d (.int .u8 (48+(m:Int))))] h=some ([u8 (dg m)],h):=fun h=>by
   simp_all[fO,jm,ly,toD]
  have hx0:¬i+1<p.length->0<(x:Int):=fun h=>by
   grind
  clear hk;refine ai ?_;by_cases g1:(i:Int)+1<(p.length:Int)
  .simp(disch:=try exact ac)[df,g5,lp',g1,Zw,Zv,e1,e2,hli];refine ap8 (RI _) hcl aa ?_;rw[hcell];simp only[RH];simp(disch:=try exact ac)[Zw,Zv,e2]
   simp_all
  .have g3:=hx0 aa;simp(disch:=try exact ac)[df,g5,lp',g1,g3,Zw,Zv,e1,e2,hli];refine ap8 (RI _) hcl aa ?_;rw[hcell];simp only[RH];simp(disch:=try exact ac)[Zw,Zv,e2]
   simp_all
theorem aev{l:LuQ}{L:Nat}(hl:l.length=N)(hL:L<=N):cvT (tH l) (.ref 0 1 0 L N N)=some (S (l.take L)):=by simp only[cvT,cellsOf,tH,aC];simp[hl,hL,<-List.map_take,Aq]
def txS(p:LnQ)(i:Nat):LuQ:=if i<p.length then(dJ (val Z (p.take i)) (9*i)).reverse else(ah (val Z p)).reverse
theorem Nz{p:LnQ}(hp:aK Z p)(hne:p≠[])(i:Nat)(hi:i<=p.length):(txS p i).length<=9*p.length:=by
 unfold txS;split
 .simp[bu];omega
 .have h1:=js (B:=Z) bI hp;rw[yV]at h1;have:=cQ h1 (by have:=Xg.2 hne;omega);simp[ah,bu];exact this
theorem Rp{p:LnQ}(hp:aK Z p)(hn:yW p){i:Nat}(hi:i<p.length):
  ∃w,(i+1<p.length∧0+w=9∨¬i+1<p.length∧0+w<=9∧nth 0 p i<10^w∧(0<w->10^(w-1)<=nth 0 p i))∧txS p (i+1)=txS p i++(dJ (nth 0 p i) w).reverse:=by
 obtain⟨x,hx⟩:=mnQ (nth 0 p i);have hxZ:x<Z:=by rw[<-hx];exact hp.getD bI i
 have hv:=wS (B:=Z) p hi;rw[show p.getD i 0=x from hx]at hv;have hlow:=js (B:=Z) bI (hp.take i);rw[Zt,Y4 aa]at hlow;rw[yV]at hlow hv;obtain⟨r,hr⟩:=mnQ (val Z (p.take i));rw[hr]at hlow hv;rw[hx];by_cases hl:i+1<p.length
 .refine⟨9,.inl ⟨hl,rfl⟩,?_⟩;have hpp:0<10^(9*i):=X6 af;rw[txS,if_pos hl,txS,if_pos hi,hr,hv,show 9*(i+1)=9+9*i by omega,yL,Yf _ _ hpp,Xe hlow,Zk,yK,List.reverse_append]
 .have hip:i+1=p.length:=aa
  have hx0:0<x:=by
   have hne:p≠[]:=fun e=>by rw[e]at hi;simp at hi
   have:=hn hne;rw[List.getLast_eq_getElem]at this;rw[<-hx,dQ _ _ _ hi];have e:p.length-1=i:=aa;simp only[e]at this;omega
  refine⟨ndg x,.inr ⟨hl,?_,de x,fun _=>zF x hx0⟩,?_⟩
  .have:ndg x<=9:=cQ (by simp only[Z]at hxZ;omega) af;omega
  .rw[txS,if_neg hl,txS,if_pos hi,hr]
   have hval:val Z p=r+10^(9*i)*x:=by
    have:p.take (i+1)=p:=Zz aa;rw[<-hv,this]
   rw[hval,Qz hx0 hlow,List.reverse_append];rfl
theorem ND{p:LnQ}(hp:aK Z p)(hn:yW p)(hne:p≠[])(hpl:p.length<100000000)(k:KL)(h0:Hp)(hh:h0.length=3){N:Nat}(hN:N=9*p.length) :
  ∀(r i:Nat),i+r=p.length->k (.exit 0) [.ref 0 1 0 (txS p p.length).length N N] (tH (txS p p.length++List.replicate (N-(txS p p.length).length) 0)) ->
  lp (iD (CX Y) (lst u6 p) (lst u6 p) (I p.length)) [] h0 [.ref 0 1 0 (txS p i).length N N,I i] (tH (txS p i++List.replicate (N-(txS p i).length) 0)) k
 | 0,i=>by
  intro hi hk;have:i=p.length:=aa;subst this;refine ai ?_;simp[iD];exact hk
 | r+1,i=>by
  intro hi hk;have hil:i<p.length:=aa;obtain⟨w,hw,hst⟩:=Rp hp hn hil;have ih:=ND hp hn hne hpl k h0 hh hN r (i+1) aa hk;have hlen2:=Nz hp hne (i+1) aa;rw[hst]at ih hlen2;have hlw:(txS p i++(dJ (nth 0 p i) w).reverse).length=(txS p i).length+w:=by simp[bu]
  rw[hlw]at ih hlen2;have e1:=fun h:Hp=>nU u6 p h (k:=.i64) (i:=(i:Int)) aa aa
  have e2:=fun h:Hp=>Dz p h (j:=i) hil
  simp only[Int.toNat_natCast]at e1;have hxZ:nth 0 p i<1000000000:=by have:=hp.getD bI i;simp only[Z]at this;exact this
  refine ai ?_;simp(disch:=try exact ac)[iD,e1,e2];refine lo (NC hil hpl aa _ _ rfl w 0 (nth 0 p i) (txS p i) hw hxZ aa ?_);simp(disch:=try exact ac)[hh];simpa using ih
theorem dS:ah 0=[48]:=by rw[ah,show ndg 0=1 by unfold ndg;simp];rfl
theorem vQ{n:Nat}(hb:(dig Z n).length<100000000):CP Y F.aT [pcs n] (S (ah n)):=by
 refine uM ?_;obtain⟨p,hp⟩:=mnQ (dig Z n);have hs:aK Z p:=by rw[<-hp];exact cI ay n
 have hno:yW p:=by rw[<-hp];exact Ef ay n
 have hv:val Z p=n:=by rw[<-hp];exact ir ay n
 rw[pcs,hp];rw[hp]at hb;have lP:aW (lst u6 p)=some (I p.length):=rfl;by_cases hne:p=[]
 .subst hne;have:n=0:=by rw[<-hv];rfl
  subst this;simp[aT,lP];exact eU dS.symm
 .have hpos:=Xg.2 hne;obtain⟨N,hN⟩:=nmQ (9*p.length);have e9:(9:Int)*(p.length:Int)=(N:Int):=aa;have g1:¬((p.length:Int)=0):=aa;have g2:¬(p.length=0):=aa;have t0:txS p 0=[]:=by rw[txS,if_pos hpos];simp[dJ,val]
  have tl:txS p p.length=(ah n).reverse:=by rw[txS,if_neg aa,hv]
  have hln:=Nz hs hne p.length (Z7 _);rw[tl,List.length_reverse]at hln;simp(disch:=try exact ac)[aT,lP,g1,g2,hne,e9];refine SV (e:=0) (b:=.none) rfl aa aa ?_;simp[lP]
  have hz:[(1,Bk.data 1 (List.replicate N (D.int IntKind.u8 0)) true false),nnQ,nnQ]=tH (txS p 0++List.replicate (N-(txS p 0).length) 0):=by
   rw[t0];simp[tH,u8]
  have main:=ND hs hno hne hb (exK [(.exit 0,fun l7 h=>
   cai (CX Y).i h (.fn F.bX [] []) [(ge l7 0)] 2 fun v8 h=>
   bnd (cvT h (ge l7 0)) fun v9=>
   out (S (ah n)) v9 h)]) (tH (txS p 0++List.replicate (N-(txS p 0).length) 0)) rfl hN p.length 0 aa (by
   simp only[kz,tl,List.length_reverse,OG];obtain⟨l,hl⟩:=mnQ ((ah n).reverse++List.replicate (N-(ah n).length) 0);have hll:l.length=N:=by rw[<-hl];simp;omega
   rw[hl];have rv:=WG (h:=tH l) rfl (s:=0) (e:=1) (ex:=true) ae (L:=(ah n).length) (cap:=N) (tot:=N) aa aa hll
   have hl2:(l.take (ah n).length).reverse++l.drop (ah n).length=ah n++List.replicate (N-(ah n).length) 0:=by
    rw[<-hl,Ya ae,W6 ae,List.reverse_reverse]
   rw[hl2]at rv;refine ik rv ?_ ae
   show bnd (cvT (tH _) _) _
   rw[aev aG aa,Ya rfl];exact eU rfl)
  rw[t0]at main hz;rw[hz];exact main
theorem GF(a b:LnQ)(hab:a.length=b.length)(hs:a.length<1000000000)(k:KL):∀i:Nat,i<=a.length->(Mu a b i=0->k (.exit 0) [] [])->(Mu a b i≠0->k .ret [I (Mu a b i)] []) ->
  lp (cZ (CX Y) (lst u6 a) (lst u6 b)) [] [] [I ((i:Int)-1)] [] k
 | 0,_,h0,_=>by
  refine ai ?_;simp[cZ];exact h0 rfl
 | i+1,hi,h0,h1=>by
  have e1:=fun h:Hp=>nU u6 a h (k:=.i64) (i:=(i:Int)) aa aa
  have e2:=fun h:Hp=>Dz a h (j:=i) aa
  have e3:=fun h:Hp=>nU u6 b h (k:=.i64) (i:=(i:Int)) aa aa
  have e4:=fun h:Hp=>Dz b h (j:=i) aa
  simp only[Int.toNat_natCast]at e1 e3;obtain⟨x,hx⟩:=mnQ (nth 0 a i);obtain⟨y,hy⟩:=mnQ (nth 0 b i);rw[hx]at e2;rw[hy]at e4;simp only[Mu,show a.getD i 0=x from hx,show b.getD i 0=y from hy]at h0 h1;have ei:((i+1:Nat):Int)-1=(i:Int):=aa;refine ai ?_;rw[ei];by_cases g1:x<y
  .have g1':(x:Int)<(y:Int):=aa;rw[if_pos g1]at h1;simp[cZ,e1,e2,e3,e4,g1'];exact h1 af
  .rw[if_neg g1]at h0 h1;have g1':¬(x:Int)<(y:Int):=aa;by_cases g2:y<x
   .have g2':(y:Int)<(x:Int):=aa;rw[if_pos g2]at h1;simp[cZ,e1,e2,e3,e4,g1',g2'];exact h1 af
   .have g2':¬(y:Int)<(x:Int):=aa;rw[if_neg g2]at h0 h1;have:=GF a b hab hs k i aa h0 h1;simp(disch:=try exact ac)[cZ,e1,e2,e3,e4,g1',g2'];simpa using this
theorem ZD(ha:(dig Z a).length<1000000000)(hb:(dig Z b).length<1000000000):CP Y F.cE [pcs a,pcs b] (I (cmp a b)):=by
 refine sG ?_;have la:aW (pcs a)=some (I (dig Z a).length):=rfl;have lb:aW (pcs b)=some (I (dig Z b).length):=rfl;by_cases hl:(dig Z a).length=(dig Z b).length
 .have ho:=N9 bI (cI ay a) (cI ay b) (dig Z a).length (Z7 _) aa;rw[Xt,hl,Xt,ir ay,ir ay,<-hl]at ho;have hli:((dig Z a).length:Int)=((dig Z b).length:Int):=aa;simp(disch:=try exact ac)[cE,la,lb,hl];refine lo (show lp _ _ _ _ _ _ from ?_);rw[<-hli]
  refine GF (dig Z a) (dig Z b) hl ha _ _ (Z7 _) (fun h0=>?_) (fun h0=>?_)
  .simp only[kz];exact bP (by rw[<-ho,h0])
  .simp only[yF,BY,OG];exact bP (by rw[ho])
 .have hli:¬((dig Z a).length:Int)=((dig Z b).length:Int):=aa;rcases Zl (dig Z a).length (dig Z b).length with h|h
  .have:=Ij ay (m:=a) (n:=b) h;have e:cmp a b = -1:=by simp[cmp,this]
   have e2:mx2 false 1 (mx2 true (-1) (((dig Z a).length:Int)-((dig Z b).length:Int))) = -1:=by simp[mx2];omega
   simp(disch:=try exact ac)[cE,la,lb,hl,mxI,e2];exact bP (by rw[e])
  .have:=Ij ay (m:=b) (n:=a) aa;have e:cmp a b=1:=by unfold cmp;rw[if_neg aa,if_pos this]
   have e2:mx2 false 1 (mx2 true (-1) (((dig Z a).length:Int)-((dig Z b).length:Int)))=1:=by simp[mx2];omega
   simp(disch:=try exact ac)[cE,la,lb,hl,mxI,e2];exact bP (by rw[e])
theorem AD(h:Hp)(l:LuQ):bg h (S l)=some (S l,h):=rfl
theorem O1{n:Nat}(h:ndg n<=d)(hd:d<90000000):(dig Z n).length<100000000:=by have h1:=de n;have h2:n<Z^d:=Z3 h1 (by rw[yV];exact Z4 af aa);have:=iC h2;omega
theorem wn(hb:0<b)(ha:ndg a<1000000)(hbd:ndg b<1000000):CP Y F.dV [S (ah a),S (ah b)] (.tup [S (ah (a/b)),S (ah (a%b)),I 0]):=by
 refine Af ?_
 have hne:¬ah b=[48]:=by
  rw[<-dS];intro e;have:=congrArg (fi 0) e;rw[dU,dU]at this;omega
 have hla:=O1 (Nat.le_of_lt ha) af;have hlb:=O1 (Nat.le_of_lt hbd) af;have bo:=B7 a b;simp[dV,hne];by_cases h18:ndg a<=18∧ndg b<=18
 .rw[if_pos h18]at bo;have ha2:a<1000000000000000000:=by have:=de a;have:=Z4 (n:=10) af h18.1;omega
  refine cd bo ?_;obtain⟨q,hq⟩:=mnQ (a/b);obtain⟨r,hr⟩:=mnQ (a%b);have hqa:q<=a:=by rw[<-hq];exact Yt ..
  have hra:r<=a:=by rw[<-hr];exact Nat.mod_le ..
  have e1:(a:Int)/(b:Int)=(q:Int):=by rw[<-hq];simp
  have e2:(a:Int)%(b:Int)=(r:Int):=by rw[<-hr];simp
  have hb0:¬((b:Int)=0):=aa;have hb0':¬(b=0):=aa;rw[hq,hr];simp(disch:=try exact ac)[hb0,hb0',Zv,Zw,e1,e2];refine cd (zD (n:=q) aa) ?_;simp[hb0,hb0',Zv,Zw,e1,e2];refine cd (zD (n:=r) aa) ?_;exact jE (AD _ _) (AD _ _) rfl
 .rw[if_neg h18]at bo;refine cd bo ?_;obtain⟨ca,hca⟩:=nmQ (ndg a/9+1);obtain⟨cb,hcb⟩:=nmQ (ndg b/9+1);have ltA:a<Z^ca:=Z3 (de a) (by rw[yV];exact Z4 af aa);have ltB:b<Z^cb:=Z3 (de b) (by rw[yV];exact Z4 af aa)
  have cA:=sN (h:=[nnQ,nnQ]) rfl (n:=a) aa hca;have lA:(bC ca a).length=ca:=dp ..;have lB:(bC cb b).length=cb:=dp ..;have cB:=sN (h:=[(1,.data 1 ((bC ca a).map u6) true false),nnQ]) rfl (n:=b) aa hcb;simp;refine lE (gA (e:=0) (b:=.none) cA rfl ?_);rw[List.length_map,lA];simp
  refine lE (gA (e:=0) (b:=.none) cB rfl ?_);rw[List.length_map,lB];simp;have sA:=u9 (h:=[(1,.data 1 ((bC ca a).map u6) true false),(1,.data 1 ((bC cb b).map u6) true false)]) (s:=0) rfl lA.symm (len:=(dig Z a).length) (cap:=ca) (iC ltA) (Z7 _)
  have sB:=u9 (h:=[(1,.data 1 ((bC ca a).map u6) true true),(1,.data 1 ((bC cb b).map u6) true false)]) (s:=1) rfl lB.symm (len:=(dig Z b).length) (cap:=cb) (iC ltB) (Z7 _);rw[nK ltA]at sA;rw[nK ltB]at sB;simp only[List.set_cons_zero,List.set_cons_succ]at sA sB
  have sAB:aA [(1,.data 1 ((bC ca a).map u6) true false),(1,.data 1 ((bC cb b).map u6) true false)] [.ref 0 1 0 (dig Z a).length ca ca,.ref 1 1 0 (dig Z b).length cb cb]=some ([pcs a,pcs b],[(1,.data 1 ((bC ca a).map u6) true true),(1,.data 1 ((bC cb b).map u6) true true)]):=by
   simp only[aA,sA,sB];rfl
  refine cdz sAB (ZD (a:=a) (b:=b) aa aa) ?_;rw[show dD (I (cmp a b))=true from rfl,if_pos rfl];by_cases hab:a<b
  .have hc:cmp a b = -1:=by simp[cmp,hab]
   rw[Xe hab,Yd hab,dS];simp[hc];exact jE (AD _ _) (AD _ _) rfl
  .have hc:¬cmp a b<0:=by unfold cmp;rw[if_neg hab];split<;>decide
   have hlen:(dig Z b).length<=(dig Z a).length:=by
    rcases Zl (dig Z a).length (dig Z b).length with h|h
    .exact absurd (Ij ay h) hab
    .exact h
   have lq:(dig Z (a/b)).length<100000000:=by
    have:a/b<=a:=Yt ..;have:=iC (Zj this ltA);omega
   have lr:(dig Z (a%b)).length<100000000:=by
    have:a%b<=a:=Nat.mod_le ..;have:=iC (Zj this ltA);omega
   by_cases h1:(dig Z b).length=1
   .have hbZ:b<Z:=by have:=vt b;rw[h1,Nat.pow_one]at this;exact this
    obtain⟨cb',hcb'⟩:∃c,cb=c+1:=⟨cb-1,aa⟩;have hn0:nth 0 (bC cb b) 0=b:=by rw[hcb',bC];simp[nth,Yd hbZ]
    have r1:=Bl (h:=[(1,.data 1 ((bC ca a).map u6) true false),(1,.data 1 ((bC cb b).map u6) true false)]) (s:=1) rfl lB.symm (len:=1) (cap:=cb) (i:=0) aa aa .i64;have r2:=HW (h:=[(1,.data 1 ((bC ca a).map u6) true false),(1,.data 1 ((bC cb b).map u6) true false)]) (s:=1) rfl lB.symm (j:=0) aa;rw[hn0]at r2
    have r1':ixV [(1,Bk.data 1 ((bC ca a).map u6) true false),(1,.data 1 ((bC cb b).map u6) true false)] 1 (.ref 1 1 0 1 cb cb) (I 0)=some (.ptr 1 1 0 cb):=r1;simp[hc,h1,r1',r2];refine cdz (ds:=[pcs a,U b]) (h':=[(1,.data 1 ((bC ca a).map u6) true true),(1,.data 1 ((bC cb b).map u6) true false)]) (by simp only[aA,sA,xO];rfl) (FT (a:=a) (n:=b) aa hb aa) ?_
    rw[show dD (.tup [pcs (a/b),U (a%b:Nat)])=false from rfl];simp;refine cd (args:=[pcs (a/b)]) (vQ lq) ?_ (by simp[aA,pcs]);simp;refine cd (zD (n:=a%b) (by have:=Y1 a hb;simp only[Z]at hbZ;omega)) ?_;exact jE (AD _ _) (AD _ _) rfl
   ·have h0:(dig Z b).length≠0:=fun e=>by
     have:=vt b;rw[e]at this;simp at this;omega
    have h1i:¬((dig Z b).length:Int)=1:=aa;simp[hc,h1,h1i];refine cdz sAB (M4 (P:=a) (Q:=b) aa hlen (by have:=iC ltA;omega)) ?_;rw[show dD (.tup [pcs (a/b),pcs (a%b)])=false from rfl];simp;refine cd (args:=[pcs (a/b)]) (vQ lq) ?_ (by simp[aA,pcs]);simp;refine cd (args:=[pcs (a%b)]) (vQ lr) ?_ (by simp[aA,pcs])
    exact jE (AD _ _) (AD _ _) rfl
end Go.Vm
