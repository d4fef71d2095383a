/- Lemmas. -/
import Derived.Test.YtmfphhiejjamaaaGreatDoorQStr
set_option linter.unusedVariables false
set_option linter.unusedSimpArgs false
namespace Go.Vm
open Go Go.Am Go.Big
variable{j a cap n b c N:Nat}{i:Int}
@[simp]theorem aid(l:LnQ)(h:Hp)(hl:j<l.length):ld1 h (.dptr (l.map u32) j)=some (.d (.int .u32 ((nth 0 l j:Nat):Int))):=aC u32 0 l h hl
@[simp]theorem aiN(n:Nat):V.d (u32 n)=.d (.int .u32 n):=id rfl
theorem Ac(h:a≠0):∃p x,dig W a=p++[x]∧x≠0∧aH W p∧x<W:=by
 have hne:dig W a≠[]:=fun e=>h ((kJ bc).1 e)
 have hs:=cJ bc a;refine⟨(dig W a).dropLast,(dig W a).getLast hne,(Xs hne).symm,FD bc a hne,fun x hx=>hs x (List.dropLast_subset _ hx),hs _ (List.getLast_mem hne)⟩
theorem zh(k:KL):∀(x n:Nat),n+bln x<4611686018427387904->x<W->k (.exit 0) [I (n+bln x:Nat)] []->lp (jf (CX Y)) [] [] [I n,.d (.int .u32 x)] [] k:=by
 intro x
 induction x using Nat.strongRecOn with
 | _ x ih=>
  intro n hn hx hk;refine aj ?_;by_cases h0:x=0
  .subst h0;simp(disch:=try exact ag)[jf];simpa[sG]using hk
  .have hb:=Ao (n:=x) aa;rw[hb]at hn hk;simp(disch:=try exact ag)[jf];have:=ih (x/2) aa (n+1) aa aa (by rw[show n+1+bln (x/2)=n+(bln (x/2)+1) by omega];exact hk);simpa using this
theorem uJ(ha:len a<2^40):CP Y F.eW [nat a] (I (bln a)):=by
 have h40:(2:Nat)^40=1099511627776:=ae;refine sv ?_;by_cases h0:a=0
 .subst h0;simp(disch:=try exact ag)[eW,nat,j4,sG]
 .obtain⟨p,x,hd,hx,hp,hxw⟩:=Ac h0;have hv:=iS bc a;rw[hd]at hv;have hb:=Al (p:=p) (x:=x) hp hx;rw[<-D4,hv]at hb;have hlen:len a=p.length+1:=by simp[len,hd]
  rw[hlen]at ha;have hb32:bln x<=32:=km (by simpa only[W]using hxw);have hnx:nth 0 (p++[x]) p.length=x:=af;simp(disch:=try exact ag)[eW,nat,hd];rw[show(32*(p.length:Int))=((32*p.length:Nat):Int) by omega];refine lo (zh _ x (32*p.length) aa hxw ?_);rw[<-hb];simp(disch:=try exact ag)
theorem x8{n by_:Nat}{h:Hp}{cells:LdQ}{z:LdQ}(hn:0<n){l:Nat}(hl:0<l)(hc:cells.length=l*n)(hb:l*by_<=140737488355328){q:kkQ}{u:PU q}
  (hq:q (.ref (h.length+1) 1 0 l l cells.length) (h++[(1,.data n [] true false),(1,.data n cells false false)])) :
  rh (apV false (h.length+1) n by_ (.ref (h.length+0) 1 0 0 0 0) (.d (.sl l cells)) (h++[(1,.data n [] true false),nnQ])) q u:=by
 unfold rh apV;simp only[cellsOf];rw[if_pos hc];unfold apC;rw[if_neg aa];have hg:aw (h++[(1,Bk.data n [] true false),nnQ]) (h.length+0) 1=.data n [] true false:=by simp[aw]
 simp only[hg];rw[if_pos ⟨trivial,rfl,Z7 _,af,hc⟩,if_neg aa,if_pos (by simpa using hb)];simp only[if_true,new];have hs:(h++[(1,Bk.data n [] true false),nnQ])[h.length+1]?=some nnQ:=af;simp only[hs];simpa using hq
@[simp] theorem afP {α:Type}(f:α->D){l:List α}(h:Hp)(hl:0<l.length)(k:V->Prop)(u:PU k):rn (rj h .eql (lst f l) (.d nPQ)) k u=k (.d (.bool false)):=by
 cases l with
 |nil=>simp at hl
 |cons x l=>exact rfl
theorem wM{h:Hp}(hu:(h.all fun x=>bW h.length x.2)=true){l:LnQ}(hl:0<l.length)(hb:l.length<1000000000000):CI Y F.aB [lst u32 l] h (.new 1 (l.map u32) false l.length l.length) h:=by
 refine im ?_;simp(disch:=try exact ag)[aB]
 have hli:cO 0 [D.int IntKind.u32 0] [] (h++[(0,Bk.none),(0,Bk.none)])=some ([],h++[(0,Bk.none),(0,Bk.none)]):=by
  simp[cO,jv,iH]
 rw[hli];simp(disch:=try exact ag);refine x8 (z:=[]) ae hl af aa ?_;simp(disch:=try exact ag);refine⟨af,?_,.inr (.inr (.inl ⟨h.length+1,1,l.length,l.length,1,l.map u32,false,af,aa,by simp[aw],rfl⟩))⟩;simp only[Yp,hu,Zg]
 try simp[bW]
def u6(n:Nat):D:=.int .u64 n
abbrev U(n:Int):V:=.d (.int .u64 n)
@[simp]theorem aiP(n:Nat):V.d (u6 n)=U n:=id rfl
def pcs(n:Nat):V:=lst u6 (dig Z n)
theorem E5(l:LnQ)(h:Hp)(hl:j<l.length):ld1 h (.dptr (l.map u6) j)=some (U (nth 0 l j:Nat)):=aC u6 0 l h hl
variable{h:Hp}{s e tot:Nat}{l:LnQ}{ex fr:Bool}
theorem CW(hg:h[s]?=some (e,.data 1 (l.map u6) ex fr))(ht:tot=l.length){len:Nat}(h0:0<=i)(h1:i<len)(k:IntKind):ixV h 1 (.ref s e 0 len cap tot) (.d (.int k i))=some (.ptr s e i.toNat tot):=by simp only[ixV,eG hg];rw[if_pos ⟨by simp[ht],h0,h1⟩];simp
theorem Jr(hg:h[s]?=some (e,.data 1 (l.map u6) ex fr))(ht:tot=l.length)(hj:j<l.length):ld1 h (.ptr s e j tot)=some (U (nth 0 l j:Nat)):=by
 have e1:tot=(l.map u6).length:=by simp[ht]
 simp only[ld1,eG hg,if_pos e1,List.getElem?_map,List.getElem?_eq_getElem hj,Option.map_some,aN 0 l j hj];rfl
theorem Ra(hg:h[s]?=some (e,.data 1 (l.map u6) ex false))(ht:tot=l.length)(hj:j<l.length)(x:Nat):st h 1 (.ptr s e j tot) (U x)=some (h.set s (e,.data 1 ((l.set j x).map u6) ex false)):=by
 have e1:(l.map u6).take j++[u6 x]++(l.map u6).drop (j+1)=(l.set j x).map u6:=by
  rw[List.map_set,Ya,if_pos bK];simp
 simp only[st,if_true,sto,eG hg,iH,toD];rw[if_pos ⟨trivial,by simp[ht],bK⟩];simp only[bS,List.length_singleton];rw[<-e1];rfl
theorem ahJ(hg:h[s]?=some (e,.data 1 (l.map u6) ex fr))(ht:tot=l.length){len:Nat}(h0:0<=i)(h1:i<=cap)(hlc:len<=cap):slV h 1 (.ref s e 0 len cap tot) none (some (I i))=some (.ref s e 0 i.toNat cap tot):=by simp only[slV,eG hg,boV];rw[if_pos ⟨aa,h1⟩];simp[ht,hlc]
theorem wL(hg:h[s]?=some (e,.data 1 (l.map u6) ex fr))(ht:tot=l.length){len:Nat}(h1:len<=cap)(hc:cap<=tot):bJ h (.ref s e 0 len cap tot)=some (lst u6 (l.take len),h.set s (e,.data 1 (l.map u6) ex true)):=by simp only[bJ,toD,eG hg];rw[if_pos ⟨by simp[ht],h1,bK⟩];simp[lst,List.map_take,bS];omega
theorem G5{h:Hp}{s e cap tot:Nat}{l:LnQ}{ex fr:Bool}(hg:h[s]?=some (e,.data 1 (l.map u6) ex fr))(ht:tot=l.length)(hc:cap<=tot)(hb:cap<1000000000000)(k:KL)(h0:Hp)(hh:h0.length=h.length):∀len,len<=cap->k (.exit 0) [.ref s e 0 (iN (l.take len)).length cap tot] h->lp (bO (CX Y) h.length) [] h0 [.ref s e 0 len cap tot] h k
 | 0,hl,hk=>by
  refine aj ?_;simp[bO];simpa[iN]using hk
 | len+1,hl,hk=>by
  have e1:=CW hg ht (len:=len+1) (cap:=cap) (i:=(len:Int)) aa aa .i64;have e2:=Jr hg ht (j:=len) aa;have e3:=ahJ hg ht (len:=len+1) (cap:=cap) (i:=(len:Int)) aa aa aa;have e4:l.take (len+1)=l.take len++[nth 0 l len]:=by rw[aN 0 l len aa,List.take_append_getElem]
  rw[Int.toNat_natCast]at e1 e3;refine aj ?_;by_cases h2:nth 0 l len=0
  .rw[e4,h2,qW]at hk;have ih:=G5 hg ht hc hb k h0 hh len aa hk;simp(disch:=try exact ag)[bO,e1,e2,e3,h2,hh];exact ih
  .rw[e4,yG h2]at hk;have e5:(l.take len++[nth 0 l len]).length=len+1:=by simp;omega
   rw[e5]at hk;simp(disch:=try exact ag)[bO,e1,e2,e3,h2];exact hk
theorem uu{h:Hp}(hu:(h.all fun x=>bW h.length x.2)=true){s e len tot:Nat}{l:LnQ}{ex fr:Bool}(hg:h[s]?=some (e,.data 1 (l.map u6) ex fr))(ht:tot=l.length)(hc:cap<=tot)(hb:cap<1000000000000)(hl:len<=cap):
  CI Y F.ay [.ref s e 0 len cap tot] h (.ref s e 0 (iN (l.take len)).length cap tot) h:=by refine p6 ?_;simp[ay];refine lo (G5 hg ht hc hb _ _ rfl len hl ?_);simp;have hs:=bH hg;refine⟨af,by simpa using hu,.inl ⟨rfl,?_⟩⟩;simp[under,hs]
def RdP(h:Hp)(a:V)(l:LnQ):Prop:=bj a=some (I l.length)∧∀(t:Hp)(i:Nat),i<l.length->∃p,ixV (h++t) 1 a (I i)=some p∧ld1 (h++t) p=some (U (nth 0 l i:Nat))
theorem ES{l:LnQ}{i:Nat}(h:i<n):nth 0 (l.take n) i=nth 0 l i:=by grind[nth]
theorem DX{h:Hp}{s e len tot:Nat}{l:LnQ}{ex fr:Bool}(hg:h[s]?=some (e,.data 1 (l.map u6) ex fr))(ht:tot=l.length)(hl:len<=tot):RdP h (.ref s e 0 len cap tot) (l.take len):=by
 have e1:(l.take len).length=len:=by simp;omega
 refine⟨by simp_all,fun t i hi=>⟨.ptr s e i tot,?_,?_⟩⟩
 .have hs:=bH hg;have:=CW (h:=h++t) (by rw[List.getElem?_append_left hs];exact hg) ht (len:=len) (cap:=cap) (i:=(i:Int)) aa aa .i64;trivial
 .have hs:=bH hg;rw[ES aa];exact Jr (h:=h++t) (by rw[List.getElem?_append_left hs];exact hg) ht aa
def pH(h:Hp)(o:LnQ):Hp:=h++[(1,.data 1 (o.map u6) true false),nnQ]
theorem BC(h:Hp)(o:LnQ):(pH h o)[h.length]?=some (1,.data 1 (o.map u6) true false):=by simp[pH]
theorem UA(h:Hp)(o o':LnQ):(pH h o).set h.length (1,.data 1 (o'.map u6) true false)=pH h o':=by simp[pH]
@[simp]theorem UB(h:Hp)(o:LnQ):(pH h o).length=h.length+2:=by simp[pH]
theorem YC{s:Nat}(hbc:b<=c)(h:Nat.blt s b=true):Nat.blt s c=true:=by grind[Nat.blt_eq]
mutual
theorem Kq{b c:Nat}(hbc:b<=c):∀v:V,under b v=true->under c v=true
 |.ref s ..,h=>YC hbc h
 |.ptr s ..,h=>YC hbc h
 |.agg l,h=>rY hbc l h
 |.tup l,h=>rY hbc l h
 | .fn _ x y,h=>by
  simp only[under,Z8]at h ⊢;exact⟨rY hbc x h.1,rY hbc y h.2⟩
 |.ifc _ x,h=>Kq hbc x h
 |.new ..,h=>by cases h
 |.junk,_=>rfl
 |.d _,_=>rfl
 |.dptr ..,_=>rfl
 |.cut _,h=>by cases h
theorem rY{b c:Nat}(hbc:b<=c):∀l:LwQ,mI b l=true->mI c l=true
 |[],_=>rfl
 | x::l,h=>by
  simp only[mI,Z8]at h ⊢;exact⟨Kq hbc x h.1,rY hbc l h.2⟩
end
theorem G3(hbc:b<=c){x:Bk}(h:bW b x=true):bW c x=true:=by
 cases x with
 |vars l=>exact rY hbc l h
 |none=>rfl
 |data n cs ex fr=>rfl
theorem OV(hbc:b<=c){h:Hp}(hu:(h.all fun x=>bW b x.2)=true):(h.all fun x=>bW c x.2)=true:=by grind[G3]
variable{h:Hp}{t0 t1:V}{da db:LnQ}
theorem Q3(hb:RdP h t1 db)(hsb:aH Z db){x i:Nat}(hx:x<Z)(hN:i+db.length<N)(hNb:N<1000000000000)(k:KL)(h0:Hp)(hh:h0.length=h.length+2)(T:Nat)(o0:LnQ):
  ∀(r c j:Nat)(o:LnQ),j+r=db.length->c<Z->o.length=N->aH Z o->val Z o+Z^(i+j)*(c+x*val Z (db.drop j))=T->(∀m,i+db.length<=m->nth 0 o m=nth 0 o0 m) ->
  (∀c' o',c'<Z->o'.length=N->aH Z o'->val Z o'+Z^(i+db.length)*c'=T->(∀m,i+db.length<=m->nth 0 o' m=nth 0 o0 m)->k (.exit 2) [U (c':Nat)] (pH h o')) ->
  lp (iC (CX Y) h.length (.ref h.length 1 0 N N N) (I i) (U x) t1 (I db.length)) [] h0 [U c,I j] (pH h o) k:=by
 intro r
 induction r with
 | zero=>
  intro c j o hj hc ho hs hv hf hk;have hjl:j=db.length:=aa;subst hjl;have hd:db.drop db.length=[]:=List.drop_length;rw[hd]at hv;simp only[val,Nat.mul_zero,Nat.add_zero]at hv;refine aj ?_;simp[iC]
  grind
 | succ r ih=>
  intro c j o hj hc ho hs hv hf hk;have hjl:j<db.length:=aa;obtain⟨m,hm⟩:=nmQ (i+j);rw[<-hm]at hv;have hij:m<o.length:=aa;obtain⟨y,hy2⟩:=mnQ (db.getD j 0);have hy:=hsb.getD bB j;have hw:=hs.getD bB m;have hst:=UX (B:=Z) (o:=o) (j:=m) (c:=c) (a:=x) (y:=db.getD j 0) (v:=val Z (db.drop (j+1))) hij;rw[<-qC,hv]at hst;rw[hy2]at hy hst
  obtain⟨p,hp⟩:=nmQ (x*y);have hxy:p<=999999999*999999999:=by rw[hp];exact Zn (by grind[Z]) (by grind[Z])
  have hpi:(x:Int)*(y:Int)=(p:Int):=by rw[hp];simp
  rw[<-hp]at hst;have e1:((i:Int)+(j:Int))=(m:Int):=aa;have hZ:Z=1000000000:=rfl;obtain⟨w,hwd⟩:=mnQ (o.getD m 0);rw[hwd]at hst hw;obtain⟨pb,r1,r2⟩:=hb.2 [(1,.data 1 (o.map u6) true false),nnQ] j hjl;rw[show nth 0 db j=y from hy2]at r2;have r3:=CW (BC h o) ho.symm (len:=N) (cap:=N) (i:=(m:Int)) aa aa .i64;have r4:=Jr (BC h o) ho.symm hij
  have r5:=Ra (BC h o) ho.symm hij ((c+w+p)%Z);rw[show nth 0 o m=w from hwd]at r4;rw[Int.toNat_natCast]at r3;rw[UA]at r5
  change ixV (pH h o) 1 t1 (I j)=some pb at r1
  change ld1 (pH h o) pb=_ at r2
  have ih2:=ih ((c+w+p)/Z) (j+1) (o.set m ((c+w+p)%Z)) aa (by grind) (by grind) (hs.set (Y7 _ bB)) (by rw[show i+(j+1)=m+1 by omega];omega)
   (fun n hn=>by rw[<-hf n hn];simp[nth,List.getElem?_set_ne (show m≠n by omega)]) hk
  clear hst hk ih hv;obtain⟨t,ht⟩:=mnQ (c+w+p);have ht2:t<1000000000000000000+2000000000:=by simp only[hZ]at *;omega
  rw[ht]at ih2 r5;obtain⟨tm,htm⟩:=mnQ (t%Z);obtain⟨td,htd⟩:=mnQ (t/Z);rw[htm]at ih2 r5;rw[htd]at ih2;have e2:(c:Int)+((w:Int)+(p:Int))=(t:Int):=aa;have e3:((t:Int)%1000000000)=(tm:Int):=by simp only[hZ]at htm;omega
  have e4:((t:Int)/1000000000)=(td:Int):=by simp only[hZ]at htd;omega
  refine aj ?_;simp(disch:=try exact ag)[iC,r1,r2,r3,r4,e1,hpi,e2,Zx,Zs,e3,e4,r5];trivial
theorem Nv(ha:RdP h t0 da)(hsa:aH Z da)(hb:RdP h t1 db)(hsb:aH Z db)(hla:da.length<100000000)(hlb:db.length<100000000)(k:KL)(h0:Hp)(hh:h0.length=h.length+2)(hN:N=da.length+db.length):
  ∀(r i:Nat)(o:LnQ),i+r=da.length->o.length=N->aH Z o->val Z o=val Z (da.take i)*val Z db->(∀m,i+db.length<=m->nth 0 o m=0) ->
  (∀o',o'.length=N->aH Z o'->val Z o'=val Z da*val Z db->k (.exit 0) [] (pH h o')) ->
  lp (iD (CX Y) h.length t1 (.ref h.length 1 0 N N N) t0 (I da.length)) [] h0 [I i] (pH h o) k:=by
 intro r
 induction r with
 | zero=>
  intro i o hi ho hs hv hf hk;refine aj ?_;have g:¬i<da.length:=aa;simp[iD,g];rw[show i=da.length by omega,Wq]at hv
  grind
 | succ r ih=>
  intro i o hi ho hs hv hf hk;have hil:i<da.length:=aa;obtain⟨pa,r1,r2⟩:=ha.2 [(1,.data 1 (o.map u6) true false),nnQ] i hil;obtain⟨x,hx⟩:=mnQ (nth 0 da i);have hxs:x<Z:=by rw[<-hx];exact hsa.getD bB i
  rw[hx]at r2
  change ixV (pH h o) 1 t0 (I i)=some pa at r1
  change ld1 (pH h o) pa=_ at r2
  have hl:=hb.1;refine aj ?_;simp(disch:=try exact ag)[iD,r1,r2,hl];refine lo (Q3 hb hsb hxs aa aa _ _ (UB h o) (val Z o+Z^i*(x*val Z db)) o db.length 0 0 o aa bB ho hs af (fun _ _=>rfl) fun c' o' hc' ho' hs' hv' hf'=>?_);simp only[iP];obtain⟨m,hm⟩:=nmQ (i+db.length)
  have hml:m<o'.length:=aa;have r3:=CW (BC h o') ho'.symm (len:=N) (cap:=N) (i:=(m:Int)) aa aa .i64;have r5:=Ra (BC h o') ho'.symm hml c';rw[Int.toNat_natCast]at r3;rw[UA]at r5;have e1:((i:Int)+(db.length:Int))=(m:Int):=aa;have e0:nth 0 o' m=0:=by rw[hf' m aa,hf m aa]
  have hvs:=xC (B:=Z) o' m c' hml;rw[show o'.getD m 0=0 from e0]at hvs
  have ih2:=ih (i+1) (o'.set m c') aa (by grind) (hs'.set hc') (by
   rw[yz da hil,show da.getD i 0=x from hx,Nat.add_mul,<-hv]
   grind) (fun n hn=>by
   simp only[nth,Zy,List.getElem?_set_ne (show m≠n by omega)];have:=hf' n aa;rw[hf n aa]at this;exact this) hk
  clear hvs hv' ih hk;simp(disch:=try exact ag)[hl,e1,r3,r5];trivial
theorem Bg(hu:(h.all fun x=>bW h.length x.2)=true)(ha:RdP h t0 da)(hsa:aH Z da)(hb:RdP h t1 db)(hsb:aH Z db)(hla:da.length<100000000)(hlb:db.length<100000000)(hN:N=da.length+db.length):
  CI Y F.bw [t0,t1] h (.new 1 ((dk N (val Z da*val Z db)).map u6) true (dig Z (val Z da*val Z db)).length N) h:=by
 refine vE ?_;have l0:=ha.1;have l1:=hb.1;have e1:((da.length:Int)+(db.length:Int))=(N:Int):=aa;simp(disch:=try exact ag)[bw,l0,l1,e1]
 have e2:h++[(1,Bk.data 1 (List.replicate N (D.int IntKind.u64 0)) true false),nnQ]=pH h (List.replicate N 0):=by
  simp[pH,u6]
 have e3:(h++[(0,Bk.none),(0,Bk.none)]).set h.length (1,Bk.data 1 (List.replicate N (D.int IntKind.u64 0)) true false)=pH h (List.replicate N 0):=by
  simp[pH,u6]
 try simp only[e3]
 try rw[e2]
 refine lo (Nv ha hsa hb hsb hla hlb _ _ (UB ..) hN da.length 0 (List.replicate N 0) aa af (fun x hx=>by grind[bB]) (by simp[oW,val]) (fun m _=>by
  grind[nth]) fun o ho hs hv=>?_)
 simp only[iP];have ht:iN (o.take N)=dig Z (val Z da*val Z db):=by rw[Z6 aa,<-hv,rR ax hs]
 have hu2:((pH h o).all fun x=>bW (pH h o).length x.2)=true:=by
  have hm:(h.all fun x=>bW (pH h o).length x.2)=true:=OV af hu;rw[pH,Yp,<-pH,hm];rfl
 have tr:=uu hu2 (BC h o) ho.symm (len:=N) (cap:=N) (Z7 _) aa (Z7 _);rw[ht]at tr;refine pT tr ?_ af;have hol:o=dk N (val Z da*val Z db):=by rw[<-hv,<-ho];exact DK o hs
 rw[<-hol];refine⟨by simp[pH],aa,.inr (.inr (.inl ⟨h.length,1,_,N,1,o.map u6,true,by grind,Z7 _,by simp[aw,pH],rfl⟩))⟩
def sP(h:Hp)(s e:Nat)(ex:Bool)(l:LnQ):Hp:=h.set s (e,.data 1 (l.map u6) ex false)
theorem sY{h:Hp}{s e:Nat}{ex:Bool}{l:LnQ}(hs:s<h.length):(sP h s e ex l)[s]?=some (e,.data 1 (l.map u6) ex false):=by simp[sP,hs]
theorem TD{h:Hp}{s e:Nat}{ex:Bool}{l l':LnQ}:(sP h s e ex l).set s (e,.data 1 (l'.map u6) ex false)=sP h s e ex l':=by simp[sP]
@[simp]theorem ahM{h:Hp}{s e:Nat}{ex:Bool}{l:LnQ}:(sP h s e ex l).length=h.length:=by simp[sP]
theorem Bp{h:Hp}{s e:Nat}{ex:Bool}{l:LnQ}(hu:(h.all fun x=>bW b x.2)=true):((sP h s e ex l).all fun x=>bW b x.2)=true:=by
 rw[Zv]at hu ⊢;intro x hx;rcases Yq hx with h1|h1
 .grind
 .rw[h1];rfl
def RdS(P:Hp->Prop)(a:V)(l:LnQ):Prop:=bj a=some (I l.length)∧∀(t:Hp)(i:Nat),P t->i<l.length->∃p,ixV t 1 a (I i)=some p∧ld1 t p=some (U (nth 0 l i:Nat))
def jb(g at_:Nat)(db:LnQ):Nat->Nat->Nat->Nat->LnQ->Nat×LnQ
 |0,_,_,w,l=>(w,l)
 | r+1,k,c,w,l=>
  if nth 0 l (at_+k)<(c+g*nth 0 db k)%Z+w then jb g at_ db r (k+1) ((c+g*nth 0 db k)/Z) 1 (l.set (at_+k) (nth 0 l (at_+k)+Z-((c+g*nth 0 db k)%Z+w)))
  else jb g at_ db r (k+1) ((c+g*nth 0 db k)/Z) 0 (l.set (at_+k) (nth 0 l (at_+k)-((c+g*nth 0 db k)%Z+w)))
variable{h:Hp}{s e tot at_ g:Nat}{ex:Bool}{t1:V}{db:LnQ}
theorem Q4(hs:s<h.length)(hb:RdS (fun t=>∃l,t=sP h s e ex l) t1 db)(hsb:aH Z db)(hg:g<Z)(hat:at_+db.length<tot)(ht:tot<1000000000000){len:Nat}(hlen:tot=len)(k:KL)(h0:Hp)(hh:h0.length=h.length):
  ∀(r j c w:Nat)(l:LnQ),j+r=db.length+1->c<Z->w<=1->l.length=tot->aH Z l ->
  k (.exit 0) [I ((jb g at_ db r j c w l).1:Nat)] (sP h s e ex (jb g at_ db r j c w l).2) ->
  lp (fT (CX Y) h.length (.ref s e 0 len cap tot) t1 (U g) (I at_)) [] h0 [U c,I w,I j] (sP h s e ex l) k:=by
 intro r
 induction r with
 | zero=>
  intro j c w l hj hc hw hl hsl hk;refine aj ?_;have g1:¬j<=db.length:=aa;have hl1:=hb.1;simp[fT,hl1,g1];exact hk
 | succ r ih=>
  intro j c w l hj hc hw hl hsl hk;have hjl:j<=db.length:=aa;obtain⟨m,hm⟩:=nmQ (at_+j);have hml:m<l.length:=aa;obtain⟨y,hy⟩:=mnQ (nth 0 db j);have hys:y<Z:=by rw[<-hy];exact hsb.getD bB j
  obtain⟨x,hx⟩:=mnQ (nth 0 l m);have hxs:x<Z:=by rw[<-hx];exact hsl.getD bB m
  obtain⟨p,hp⟩:=nmQ (g*y);have hxy:p<=999999999*999999999:=by rw[hp];exact Zn (by grind[Z]) (by grind[Z])
  have hpi:(g:Int)*(y:Int)=(p:Int):=by rw[hp];simp
  have e1:((at_:Int)+(j:Int))=(m:Int):=aa;have hZ:Z=1000000000:=rfl;have hl1:=hb.1;have r3:=CW (sY (e:=e) (ex:=ex) (l:=l) hs) hl.symm (len:=len) (cap:=cap) (i:=(m:Int)) aa aa .i64;have r4:=Jr (sY (e:=e) (ex:=ex) (l:=l) hs) hl.symm hml;have r5:=Ra (sY (e:=e) (ex:=ex) (l:=l) hs) hl.symm hml;simp only[TD]at r5;rw[hx]at r4;rw[Int.toNat_natCast]at r3
  rw[jb,hy,<-hp,<-hm,hx]at hk;have hsm:(∀v,v<Z->aH Z (l.set m v)):=fun v hv=>hsl.set hv
  obtain⟨t,ht1⟩:=mnQ (c+p);rw[ht1]at hk;obtain⟨tm,htm⟩:=mnQ (t%Z);obtain⟨td,htd⟩:=mnQ (t/Z);rw[htm,htd]at hk;have ht2:t<1000000000000000000:=by simp only[hZ]at *;omega
  have htdZ:td<Z:=by simp only[hZ]at *;omega
  have htmZ:tm<Z:=by simp only[hZ]at *;omega
  have e3:((t:Int)%1000000000)=(tm:Int):=by simp only[hZ]at htm;omega
  have e4:((t:Int)/1000000000)=(td:Int):=by simp only[hZ]at htd;omega
  have main:∀(v:Nat)(w':Nat),v<Z->w'<=1->k (.exit 0) [I ((jb g at_ db r (j+1) td w' (l.set m v)).1:Nat)] (sP h s e ex (jb g at_ db r (j+1) td w' (l.set m v)).2) ->
    lp (fT (CX Y) h.length (.ref s e 0 len cap tot) t1 (U g) (I at_)) [] h0 [U td,I w',I (j+1:Nat)] (sP h s e ex (l.set m v)) k:=fun v w' hv hw' hk'=>
   ih (j+1) td w' (l.set m v) aa htdZ hw' (by grind) (hsm v hv) hk'
  clear ih;have e2:(c:Int)+(p:Int)=(t:Int):=aa;refine aj ?_;simp[fT,hl1,hjl];refine jD (l:=[U t]) (h:=sP h s e ex l) (fun q=>?_) ?_
  .by_cases g2:j<db.length
   .obtain⟨pb,q1,q2⟩:=hb.2 (sP h s e ex l) j ⟨l,rfl⟩ g2;rw[hy]at q2;simp(disch:=try exact ag)[g2,q1,q2,hpi,e2]
   .have hy0:nth 0 db j=0:=by simp[nth,List.getElem?_eq_none (show db.length<=j by omega)]
    rw[hy]at hy0;subst hy0;simp only[Nat.mul_zero]at hp;subst hp;obtain rfl:c=t:=aa;simp[g2]
  .simp(disch:=try exact ag)[e1,r3,r4,Zx,Zs,e3,e4];by_cases hxt:x<tm+w
   .rw[if_pos hxt]at hk;obtain⟨v,hv⟩:=mnQ (x+Z-(tm+w));rw[hv]at hk;have hvZ:v<Z:=aa;have e5:(x:Int)-tm-w<0:=aa;have e6:(x:Int)-tm-w+1000000000=v:=by simp only[hZ]at hv;omega
    have r6:=r5 v;refine jD (l:=[I v,I (1:Nat)]) (h:=sP h s e ex l) (fun q=>?_) ?_
    .simp(disch:=try exact ag)[e5,e6]
    .simp(disch:=try exact ag)[e1,r3,r6];simpa using main v 1 hvZ (Z7 _) hk
   .rw[if_neg hxt]at hk;obtain⟨v,hv⟩:=mnQ (x-(tm+w));rw[hv]at hk;have hvZ:v<Z:=aa;have e5:¬((x:Int)-tm-w<0):=aa;have e6:(x:Int)-tm-w=v:=aa;have r6:=r5 v;refine jD (l:=[I v,I (0:Nat)]) (h:=sP h s e ex l) (fun q=>?_) ?_
    .rw[e6]at e5 ⊢;simp[e5]
    .simp(disch:=try exact ag)[e1,r3,r6];simpa using main v 0 hvZ (Yl _) hk
theorem KE(hu:(h.all fun x=>bW h.length x.2)=true)(hs:s<h.length)(hb:RdS (fun t=>∃l,t=sP h s e ex l) t1 db)(hsb:aH Z db)(hg:g<Z)(hat:at_+db.length<tot)(ht:tot<1000000000000){l:LnQ}(hl:l.length=tot)(hsl:aH Z l):
  CI Y F.dC [.ref s e 0 tot tot tot,t1,U g,I at_] (sP h s e ex l) (B (decide (0<(jb g at_ db (db.length+1) 0 0 0 l).1))) (sP h s e ex (jb g at_ db (db.length+1) 0 0 0 l).2):=by refine mq ?_;simp[dC];refine lo (Q4 hs hb hsb hg hat ht rfl _ _ af (db.length+1) 0 0 0 l aa bB (Yl _) hl hsl ?_);simp;refine⟨(Z6 af).symm,?_,.inl ⟨rfl,rfl⟩⟩;exact Bp hu
def rF(at_:Nat)(db:LnQ):Nat->Nat->Nat->LnQ->LnQ
 |0,_,_,l=>l
 |r+1,k,c,l=>rF at_ db r (k+1) ((c+nth 0 l (at_+k)+nth 0 db k)/Z) (l.set (at_+k) ((c+nth 0 l (at_+k)+nth 0 db k)%Z))
theorem Sz(hs:s<h.length)(hb:RdS (fun t=>∃l,t=sP h s e ex l) t1 db)(hsb:aH Z db)(hat:at_+db.length<tot)(ht:tot<1000000000000){len:Nat}(hlen:tot=len)(k:KL)(h0:Hp)(hh:h0.length=h.length):
  ∀(r j c:Nat)(l:LnQ),j+r=db.length+1->c<Z->l.length=tot->aH Z l ->
  k (.exit 0) [] (sP h s e ex (rF at_ db r j c l)) ->
  lp (iX (CX Y) h.length (.ref s e 0 len cap tot) t1 (I at_)) [] h0 [U c,I j] (sP h s e ex l) k:=by
 intro r
 induction r with
 | zero=>
  intro j c l hj hc hl hsl hk;refine aj ?_;have g1:¬j<=db.length:=aa;have hl1:=hb.1;simp[iX,hl1,g1];exact hk
 | succ r ih=>
  intro j c l hj hc hl hsl hk;have hjl:j<=db.length:=aa;obtain⟨m,hm⟩:=nmQ (at_+j);have hml:m<l.length:=aa;obtain⟨y,hy⟩:=mnQ (nth 0 db j);have hys:y<Z:=by rw[<-hy];exact hsb.getD bB j
  obtain⟨x,hx⟩:=mnQ (nth 0 l m);have hxs:x<Z:=by rw[<-hx];exact hsl.getD bB m
  have e1:((at_:Int)+(j:Int))=(m:Int):=aa;have hZ:Z=1000000000:=rfl;have hl1:=hb.1;have r3:=CW (sY (e:=e) (ex:=ex) (l:=l) hs) hl.symm (len:=len) (cap:=cap) (i:=(m:Int)) aa aa .i64;have r4:=Jr (sY (e:=e) (ex:=ex) (l:=l) hs) hl.symm hml;have r5:=Ra (sY (e:=e) (ex:=ex) (l:=l) hs) hl.symm hml;simp only[TD]at r5;rw[hx]at r4;rw[Int.toNat_natCast]at r3
  rw[rF,hy,<-hm,hx]at hk;obtain⟨t,ht1⟩:=mnQ (c+x+y);rw[ht1]at hk;obtain⟨tm,htm⟩:=mnQ (t%Z);obtain⟨td,htd⟩:=mnQ (t/Z);rw[htm,htd]at hk;have ht2:t<3000000000:=by simp only[hZ]at *;omega
  have htdZ:td<Z:=by simp only[hZ]at *;omega
  have htmZ:tm<Z:=by simp only[hZ]at *;omega
  have e3:((t:Int)%1000000000)=(tm:Int):=by simp only[hZ]at htm;omega
  have e4:((t:Int)/1000000000)=(td:Int):=by simp only[hZ]at htd;omega
  have ih2:=ih (j+1) td (l.set m tm) aa htdZ (by grind) (hsl.set htmZ) hk;have r6:=r5 tm;clear ih;refine aj ?_;simp(disch:=try exact ag)[iX,hl1,hjl,e1,r3,r4];refine jD (l:=[U t]) (h:=sP h s e ex l) (fun q=>?_) ?_
  .by_cases g2:j<db.length
   .obtain⟨pb,q1,q2⟩:=hb.2 (sP h s e ex l) j ⟨l,rfl⟩ g2;rw[hy]at q2;have e2:(c:Int)+(x:Int)+(y:Int)=(t:Int):=aa;simp(disch:=try exact ag)[g2,q1,q2,e2]
   .have hy0:nth 0 db j=0:=by simp[nth,List.getElem?_eq_none (show db.length<=j by omega)]
    rw[hy]at hy0;subst hy0;have e2:(c:Int)+(x:Int)=(t:Int):=aa;simp[g2,e2]
  .simp(disch:=try exact ag)[e1,r3,r4,Zx,Zs,e3,e4,r6];trivial
theorem MZ(hu:(h.all fun x=>bW h.length x.2)=true)(hs:s<h.length)(hb:RdS (fun t=>∃l,t=sP h s e ex l) t1 db)(hsb:aH Z db)(hat:at_+db.length<tot)(ht:tot<1000000000000){l:LnQ}(hl:l.length=tot)(hsl:aH Z l):
  CI Y F.cL [.ref s e 0 tot tot tot,t1,I at_] (sP h s e ex l) (.tup []) (sP h s e ex (rF at_ db (db.length+1) 0 0 l)):=by refine wq ?_;simp[cL];refine lo (Sz hs hb hsb hat ht rfl _ _ af (db.length+1) 0 0 l aa bB hl hsl ?_);simp;refine⟨(Z6 af).symm,?_,.inl ⟨rfl,rfl⟩⟩;exact Bp hu
end Go.Vm
namespace Go.Big
section
variable{B:Nat}
theorem ZJ(l:LnQ)(z:Nat):val B (l++List.replicate z 0)=val B l:=by rw[val_append,oW];simp
variable{L lD lB x0 x1 x2 y0 y1 D v g r hi:Nat}
structure Gs(B L lD lB x0 x1 x2 y0 y1 D v hi:Nat):Prop where
 B0:0<B
 D_eq:D=lD+L*(x0+B*hi)
 v_eq:v=lB+L*(y0+B*y1)
 lDL:lD<L
 lBL:lB<L
 hx0:x0<B
 hy0:y0<B
 hy1:0<y1
 hD:D<B*v
theorem Gs.vpos(G:Gs B L lD lB x0 x1 x2 y0 y1 D v hi):L*B<=v:=by
 rw[G.v_eq]
 have h1:L*B<=L*(y0+B*y1):=Zw L (by
  have:=Zw B G.hy1;omega)
 omega
theorem Gs.pos(G:Gs B L lD lB x0 x1 x2 y0 y1 D v hi):0<v:=by have:=G.vpos;have h1:=G.lDL;have h2:0<L*B:=Yx aa G.B0;omega
theorem Gs.first(G:Gs B L lD lB x0 x1 x2 y0 y1 D v hi):D/v<=hi/y1:=by
 have hvp:=G.pos;rw[W8 G.hy1];have h1:D/v*v<=D:=Ws D v;generalize D/v=q at *
 have h2:q*(L*(B*y1))<=q*v:=Zw q (by
  rw[G.v_eq];have:=Zw L (Nat.le_add_left (B*y1) y0);omega)
 have h3:D<L*B*(hi+1):=by
  rw[G.D_eq];have:=G.lDL;have h4:=Zw L (show x0+1+B*hi<=B*(hi+1) by rw[Nat.mul_add];have:=G.hx0;omega);rw[<-Nat.mul_assoc]at h4
  have h5:L*(x0+1+B*hi)=L+L*(x0+B*hi):=by
   rw[show x0+1+B*hi=1+(x0+B*hi) by omega,Nat.mul_add];simp
  omega
 have h6:q*(L*(B*y1))=L*B*(q*y1):=by
  rw[<-Nat.mul_assoc L B y1,Y1]
 have h7:L*B*(q*y1)<L*B*(hi+1):=aa;have:=W5 h7;omega
theorem Gs.over(G:Gs B L lD lB x0 x1 x2 y0 y1 D v hi)(he:g*y1+r=hi)(h:r*B+x0<g*y0):D/v<g:=by
 rw[Xt G.pos]
 have h1:L*(x0+1+B*hi)<=g*v:=by
  rw[G.v_eq];have h2:g*(L*(y0+B*y1))<=g*(lB+L*(y0+B*y1)):=Zw g aa
  have h3:g*(L*(y0+B*y1))=L*(g*y0+B*(g*y1)):=by
   rw[Y1 g L,Nat.mul_add,Y1 g B]
  have h4:L*(x0+1+B*hi)<=L*(g*y0+B*(g*y1)):=Zw L (by
   rw[<-he,Nat.mul_add,Zt B r];omega)
  omega
 have h5:L*(x0+1+B*hi)=L+L*(x0+B*hi):=by
  rw[show x0+1+B*hi=1+(x0+B*hi) by omega,Nat.mul_add];simp
 have:=G.lDL;rw[G.D_eq];omega
theorem Gs.le(G:Gs B L lD lB x0 x1 x2 y0 y1 D v hi)(h:g*v<D+v):g<=D/v+1:=by
 have h1:=Yf D v;have h2:=Y7 D G.pos;rcases Zi (D/v+1) g with h3|h3
 .have h4:=Zz v (show D/v+2<=g by omega);rw[Nat.add_mul,Zt (D/v) v]at h4;omega
 .exact h3
end
end Go.Big
namespace Go.Vm
open Go Go.Am Go.Big
variable{h1 h2:Hp}{a b va vb:V}{w k cap j N:Nat}{z:Int}
theorem yV{l:LnQ}{m n v:Nat}(h:m≠n):nth 0 (l.set m v) n=nth 0 l n:=by simp[nth,List.getElem?_set_ne h]
structure Frm(l l':LnQ)(a b:Nat):Prop where
 len:l'.length=l.length
 same:∀m,m<a∨b<=m->nth 0 l' m=nth 0 l m
theorem Ee{g at_:Nat}(hg:g<Z){db:LnQ}(hsb:aH Z db):∀(r j c w:Nat)(l:LnQ),at_+j+r<=l.length->c<Z->w<=1->aH Z l->c+g*val Z (db.drop j)<Z^r ->
  Frm l (jb g at_ db r j c w l).2 (at_+j) (at_+j+r)∧aH Z (jb g at_ db r j c w l).2∧(jb g at_ db r j c w l).1<=1 ∧
  val Z (jb g at_ db r j c w l).2+Z^(at_+j)*(c+g*val Z (db.drop j)+w)=val Z l+Z^(at_+j+r)*(jb g at_ db r j c w l).1
 | 0,j,c,w,l,hl,hc,hw,hs,hT=>by
  have h0:c+g*val Z (db.drop j)=0:=by simp at hT;omega
  refine⟨⟨rfl,fun _ _=>rfl⟩,hs,hw,?_⟩;rw[h0,Zp];rfl
 | r+1,j,c,w,l,hl,hc,hw,hs,hT=>by
  obtain⟨m,hm⟩:=nmQ (at_+j);have hml:m<l.length:=aa;obtain⟨x,hx⟩:=mnQ (nth 0 l m);have hxs:x<Z:=by rw[<-hx];exact hs.getD bB m
  obtain⟨y,hy⟩:=mnQ (nth 0 db j);rw[jb,hy,<-hm,hx];have hvd:val Z (db.drop j)=y+Z*val Z (db.drop (j+1)):=by rw[qC,show db.getD j 0=y from hy]
  obtain⟨V,hV⟩:=mnQ (val Z (db.drop (j+1)));rw[hvd,hV]at hT ⊢;obtain⟨t,ht⟩:=mnQ (c+g*y);rw[ht];obtain⟨tm,htm⟩:=mnQ (t%Z);obtain⟨td,htd⟩:=mnQ (t/Z);have hdm:t=tm+Z*td:=by rw[<-htm,<-htd];exact(Xk t Z).symm
  have htmZ:tm<Z:=by rw[<-htm];exact Y7 _ bB
  rw[htm,htd]
  have hsum:c+g*(y+Z*V)=tm+Z*(td+g*V):=by
   rw[Nat.mul_add,Y1 g Z,Nat.mul_add];omega
  rw[hsum]at hT ⊢
  have hT2:td+g*V<Z^r:=by
   rw[Nat.pow_succ,Zt (Z^r)]at hT;have:Z*(td+g*V)<Z*Z^r:=aa;exact W5 this
  have htdZ:td<Z∨True:=.inr trivial
  have step:∀(v w':Nat),v<Z->w'<=1->v+(tm+w)=x+Z*w'->td<Z ->
    Frm l (jb g at_ db r (j+1) td w' (l.set m v)).2 (at_+j) (at_+j+(r+1))∧aH Z (jb g at_ db r (j+1) td w' (l.set m v)).2∧(jb g at_ db r (j+1) td w' (l.set m v)).1<=1 ∧
    val Z (jb g at_ db r (j+1) td w' (l.set m v)).2+Z^m*(tm+Z*(td+g*V)+w)=val Z l+Z^(m+(r+1))*(jb g at_ db r (j+1) td w' (l.set m v)).1:=by
   intro v w' hv hw' he htd2;obtain⟨⟨f1,f2⟩,i2,i3,i4⟩:=Ee hg hsb (g:=g) (at_:=at_) r (j+1) td w' (l.set m v) bK htd2 hw' (hs.set hv) (by rw[hV];exact hT2);refine⟨⟨by rw[f1];simp,fun n hn=>?_⟩,i2,i3,?_⟩
   .rw[f2 n aa,yV aa]
   .have hvs:=xC (B:=Z) l m v hml;rw[show l.getD m 0=x from hx]at hvs;rw[hV,show at_+(j+1)=m+1 by omega]at i4;rw[show m+(r+1)=m+1+r by omega];generalize val Z (jb g at_ db r (j+1) td w' (l.set m v)).2=R at *;generalize(jb g at_ db r (j+1) td w' (l.set m v)).1=W at *;generalize val Z (l.set m v)=R1 at *;generalize val Z l=R0 at *;generalize td+g*V=T at *
    rw[Nat.pow_succ Z m,Nat.mul_assoc (Z^m) Z (T+w')]at i4;generalize Z^m=P at *;have h1:P*v+P*(tm+w)=P*x+P*(Z*w'):=by rw[<-Nat.mul_add,<-Nat.mul_add,he]
    have h2:P*(Z*(T+w'))=P*(Z*T)+P*(Z*w'):=by rw[Nat.mul_add Z,Nat.mul_add]
    have h3:P*(tm+Z*T+w)=P*(tm+w)+P*(Z*T):=by rw[<-Nat.mul_add];congr 1;omega
    omega
  have htd2:td<Z:=by
   have hy2:y<Z:=by rw[<-hy];exact hsb.getD bB j
   have:=Zn (show g<=999999999 by simp only[Z]at hg;omega) (show y<=999999999 by simp only[Z]at hy2;omega);simp only[Z]at *;omega
  rw[<-hm]at step;by_cases hlt:x<tm+w
  .simp only[if_pos hlt];exact step _ 1 aa (Z7 _) aa htd2
  .simp only[if_neg hlt];exact step _ 0 aa (Yl _) aa htd2
theorem FT{at_:Nat}{db:LnQ}(hsb:aH Z db):∀(r j c:Nat)(l:LnQ),at_+j+r<=l.length->c<=1->aH Z l ->
  Frm l (rF at_ db r j c l) (at_+j) (at_+j+r)∧aH Z (rF at_ db r j c l) ∧
  ∃ce,val Z (rF at_ db r j c l)+Z^(at_+j+r)*(ce+val Z (db.drop (j+r)))=val Z l+Z^(at_+j)*(c+val Z (db.drop j))
 |0,j,c,l,hl,hc,hs=>⟨⟨rfl,fun _ _=>rfl⟩,hs,c,rfl⟩
 | r+1,j,c,l,hl,hc,hs=>by
  obtain⟨m,hm⟩:=nmQ (at_+j);have hml:m<l.length:=aa;obtain⟨x,hx⟩:=mnQ (nth 0 l m);have hxs:x<Z:=by rw[<-hx];exact hs.getD bB m
  obtain⟨y,hy⟩:=mnQ (nth 0 db j);have hys:y<Z:=by rw[<-hy];exact hsb.getD bB j
  rw[rF,hy,<-hm,hx];have hvd:val Z (db.drop j)=y+Z*val Z (db.drop (j+1)):=by rw[qC,show db.getD j 0=y from hy]
  obtain⟨t,ht⟩:=mnQ (c+x+y);rw[ht];obtain⟨tm,htm⟩:=mnQ (t%Z);obtain⟨td,htd⟩:=mnQ (t/Z);have hdm:t=tm+Z*td:=by rw[<-htm,<-htd];exact(Xk t Z).symm
  have htmZ:tm<Z:=by rw[<-htm];exact Y7 _ bB
  have htd1:td<=1:=by simp only[Z]at *;omega
  rw[htm,htd];obtain⟨⟨f1,f2⟩,i2,ce,i4⟩:=FT hsb (at_:=at_) r (j+1) td (l.set m tm) bK htd1 (hs.set htmZ);refine⟨⟨by rw[f1];simp,fun n hn=>?_⟩,i2,ce,?_⟩
  .rw[f2 n aa,yV aa]
  .have hvs:=xC (B:=Z) l m tm hml;rw[show l.getD m 0=x from hx]at hvs;rw[show at_+(j+1)=m+1 by omega,show j+1+r=j+(r+1) by omega]at i4;rw[show m+(r+1)=m+1+r by omega,hvd];generalize val Z (rF at_ db r (j+1) td (l.set m tm))=R at *;generalize val Z (l.set m tm)=R1 at *;generalize val Z l=R0 at *;generalize val Z (db.drop (j+1))=V at *
   rw[Nat.pow_succ Z m,Nat.mul_assoc (Z^m) Z (td+V)]at i4;generalize Z^(m+1+r)*(ce+val Z (db.drop (j+(r+1))))=Q at *;generalize Z^m=P at *;have h1:P*tm+P*(Z*td)=P*x+P*(c+y):=by rw[<-Nat.mul_add,<-Nat.mul_add,<-hdm,<-ht];congr 1;omega
   have h2:P*(Z*(td+V))=P*(Z*td)+P*(Z*V):=by rw[Nat.mul_add Z,Nat.mul_add]
   have h3:P*(c+(y+Z*V))=P*(c+y)+P*(Z*V):=by rw[<-Nat.mul_add];congr 1;omega
   omega
theorem Frm.take{l l':LnQ}{a b:Nat}(h:Frm l l' a b):l'.take a=l.take a:=by
 refine Wp (by simp[h.len]) fun i h1 h2=>?_
 simp only[Zr]at h1 h2;have:=h.same i (.inl aa);rw[aN _ _ _ aa,aN _ _ _ aa]at this;simpa using this
theorem Frm.drop{l l':LnQ}{a b:Nat}(h:Frm l l' a b):l'.drop b=l.drop b:=by
 refine Wp (by simp[h.len]) fun i h1 h2=>?_
 simp only[Yo]at h1 h2;have:=h.same (b+i) (.inr aa);rw[aN _ _ _ aa,aN _ _ _ aa]at this;simpa using this
def I6(o:LnQ):Hp:=[(1,.data 1 (o.map u6) true false),nnQ]
@[simp]theorem afI(o:LnQ):(I6 o).length=2:=rfl
theorem G6(l:LnQ):∃z,l=iN l++List.replicate z 0:=by
 induction hn:l.length generalizing l with
 | zero=>
  have:l=[]:=Zf hn;subst this;exact⟨0,rfl⟩
 | succ n ih=>
  obtain⟨l,x,rfl⟩:∃l' x,l=l'++[x]:=⟨l.dropLast,l.getLast (by intro e;simp[e]at hn),(Xs _).symm⟩;by_cases hx:x=0
  .subst hx;rw[qW];obtain⟨z,hz⟩:=ih l (by simpa using hn);refine⟨z+1,?_⟩
   conv=>lhs;rw[hz]
   rw[List.append_assoc,List.replicate_succ']
  .rw[yG hx];exact⟨0,af⟩
theorem Bl{l:LnQ}:l.take (iN l).length=iN l:=by obtain⟨z,hz⟩:=G6 l;generalize iN l=t at *;subst hz;rw[Xy rfl]
theorem zK(h:Hp)(n:Int):bJ h (U n)=some (U n,h):=rfl
theorem aG{h:Hp}(ha:bJ h a=some (va,h1))(hb:bJ h1 b=some (vb,h2)):out (.tup [va,vb]) (.tup [a,b]) h:=
 ⟨h2,by simp only[bJ,aS,ha,hb]⟩
theorem jY{h h3:Hp}{c vc:V}(ha:bJ h a=some (va,h1))(hb:bJ h1 b=some (vb,h2))(hc:bJ h2 c=some (vc,h3)):out (.tup [va,vb,vc]) (.tup [a,b,c]) h:=
 ⟨h3,by simp only[bJ,aS,ha,hb,hc]⟩
section
variable{H:Hp}{p7 p8 pa0 pb0 pb1:V}{n i:Nat}{L lD lB x0 x1 x2 y0 y1 D v hi:Nat}
end
structure DvH(g:Hp)(sa:Nat)(bl:LnQ):Prop where
 len:g.length=9
 sa:sa<2
 b:g[2]?=some (1,.data 1 (bl.map u6) true false)
 c5:g[5]?=some nnQ
 c6:g[6]?=some nnQ
 off:∀x∈g,offB [5,6] x.2=true
 und:(g.all fun x=>bW 9 x.2)=true
variable{g:Hp}{sa:Nat}{exa:Bool}{al ol bl:LnQ}
variable{g:Hp}{sa:Nat}{exa:Bool}{bl db:LnQ}{n M m A:Nat}
theorem BQ{n:Nat}(h:n<Z^w):dk (w+1) n=dk w n++[0]:=by
 have h1:aH Z (dk w n++[0]):=(vA w n).snoc bB
 grind[DK,Kn,xr,Zm,cT]
theorem V0{n:Nat}(h:n<Z^w):iN (dk w n)=dig Z n:=by rw[<-rR ax (vA w n),xr w n h]
theorem nK{n:Nat}(h:n<Z^w):(dk w n).take (dig Z n).length=dig Z n:=by grind[V0,Bl]
theorem iL{n:Nat}(h:n<Z^k):(dig Z n).length<=k:=(pN ax).2 h
variable{P Q n p f M W9 sa:Nat}{exa:Bool}{hA:Hp}
theorem abS{s s' e e' L n k by_ tot:Nat}{b':Bk}{old cs:LdQ}{fr:Bool}{h:Hp}{q:kkQ}{u:PU q}(hg:h[s]?=some (e,.data n old true fr))(hs':h[s']?=some (e',b'))(ht:tot=L*n)(hold:old.length=L*n)(hcs:cs.length=k*n)(hb:(L+k)*by_<=140737488355328)
  (h0:k=0->q (.ref s e 0 L L tot) h) (h1:0<k->q (.ref s' (e'+1) 0 (L+k) (L+k) (L*n+cs.length)) (h.set s' (e'+1,.data n (old++cs) false false))):rh (apV false s' n by_ (.ref s e 0 L L tot) (.d (.sl k cs)) h) q u:=by
 unfold rh apV;simp only[cellsOf];rw[if_pos hcs];unfold apC;by_cases hk:k=0
 .grind
 .rw[if_neg hk];simp only[eG hg];rw[if_pos ⟨trivial,aa,Z7 _,aa,hcs⟩,if_neg aa,if_pos hb];simp only[if_true,new,hs',Zj];rw[Z6 aa];exact h1 aa
theorem OU{s s' e len cap:Nat}{old:LnQ}{x:Nat}{ex:Bool}{h:Hp}{q:kkQ}{u:PU q}(hg:h[s]?=some (e,.data 1 (old.map u6) ex false))(hold:old.length=cap)(hl:len<cap)
  (hq:q (.ref s e 0 (len+1) cap cap) (h.set s (e,.data 1 ((old.take len++[x]++old.drop (len+1)).map u6) ex false))):rh (apV false s' 1 8 (.ref s e 0 len cap cap) (.d (.sl 1 [u6 x])) h) q u:=by
 unfold rh apV;simp only[cellsOf];rw[if_pos af];unfold apC;rw[if_neg aa];simp only[eG hg];rw[if_pos ⟨trivial,by grind,aa,by grind,af⟩,if_pos aa]
 simp_all
theorem QP{s s' e e' cap:Nat}{b':Bk}{old:LnQ}{x:Nat}{h:Hp}{q:kkQ}{u:PU q}(hg:h[s]?=some (e,.data 1 (old.map u6) true false))(hs':h[s']?=some (e',b'))(hold:old.length=cap)(hb:cap<1000000000000)
  (hq:q (.ref s' (e'+1) 0 (cap+1) (cap+1) (cap+1)) (h.set s' (e'+1,.data 1 ((old++[x]).map u6) false false))):rh (apV false s' 1 8 (.ref s e 0 cap cap cap) (.d (.sl 1 [u6 x])) h) q u:=by
 refine abS (L:=cap) (old:=old.map u6) hg hs' aa (by grind) rfl aa (fun h=>by omega) fun _=>?_
 simp only[Yc,List.length_singleton];rw[show old.map u6++[u6 x]=(old++[x]).map u6 by simp];exact hq
def ac2:Acc:=⟨2,0,1,.none⟩
def toH(s:Bool)(b0:Nat×Bk)(d:LnQ):Hp:=[b0,(1,.vars [.d (.bool s),ac2.v d.length (d.map i9)]),ac2.b d.length (d.map i9)]
@[simp]theorem afa(a:Acc)(n:Nat)(c:LdQ):a.v (n+1) c=.ref a.s (a.e+1) 0 (n+1) (n+1) c.length:=id rfl
@[simp]theorem afb(a:Acc)(n:Nat)(c:LdQ):a.b (n+1) c=(a.e+1,.data a.n c false false):=id rfl
theorem tM(a:Acc)(c:LdQ):a.v 0 c=.d nPQ:=rfl
theorem tP(a:Acc)(c:LdQ):a.b 0 c=(a.e,a.b0):=rfl
theorem AV(s:Bool)(b0:Nat×Bk)(k:KL)(h0:Hp)(hh:h0.length=3):∀(w n:Nat)(d:LnQ),w+d.length<9000000000->n<10^w->aH Z d ->
  (∀d':LnQ,aH Z d'->d'.length<=d.length+w->val Z d'=val Z d+Z^d.length*n->k (.exit 0) [] (toH s b0 d')) ->
  lp (gA (CX Y) (.ptr 1 1 0 2)) [] h0 [S (dS n w)] (toH s b0 d) k:=by
 intro w
 induction w using Nat.strongRecOn with
 | _ w ih=>
  intro n d hw hn hs hk;refine aj ?_;by_cases h0w:w=0
  .subst h0w;simp at hn;subst hn;simp(disch:=try exact ag)[gA,dS];exact hk d hs aa af
  ·obtain ⟨v,u,hv1,hv9,hvw,hu,huv⟩:∃v u:Nat,1<=v∧v<=9∧w=u+v∧mx2 true 0 ((w:Int)-9)=u∧(u=0∨v=9):=by
    by_cases h9:w<=9
    .exact⟨w,0,aa,h9,aa,by simp[mx2];omega,.inl rfl⟩
    .exact⟨9,w-9,aa,aa,aa,by simp[mx2];omega,.inr rfl⟩
   have hD:=AR v u n;rw[<-hvw]at hD;have hl:=bh w n;have hlu:=bh u (n/10^v)
   have e1:(dS n w).drop u=dS (n%10^v) v:=by
    rw[hD,Wd hlu];have:=AQ v (n%10^v) (n/10^v);rw[Xk]at this;exact this
   have e2:(dS n w).take u=dS (n/10^v) u:=by
    rw[hD,Xy hlu]
   have hp:0<10^v:=Yj ae;have hm:=Y7 n hp
   have hZv:10^v<=Z:=by
    have:10^v<=10^9:=Z4 ae hv9;exact this
   have hnu:n/10^v<10^u:=Wl (by rw[hvw,Xd,Y6]at hn;exact hn)
   have hval:n%10^v+Z*(n/10^v)=n:=by
    have:=Xk n (10^v);rcases huv with rfl|rfl
    .rw[Nat.pow_zero]at hnu;have h3:n/10^v=0:=Nat.lt_one_iff.1 hnu;rw[h3]at this ⊢;simpa using this
    .exact this
   have:=ih u aa (n/10^v) (d++[n%10^v]) bK hnu (hs.snoc (Z1 hm hZv)) (fun d' h1 h2 h3=>hk d' h1 (by simp at h2;omega) (by
    rw[h3,Kn,Zm,List.length_singleton,Nat.pow_succ,Nat.mul_assoc,Nat.add_assoc,<-Nat.mul_add,hval]))
   generalize dS n w=L at *;generalize n%10^v=r at *;clear hval hk ih;simp(disch:=try exact ag)[gA,mxI,hl,hu,e1,e2];refine cd (JY hv1 aa hm) ?_;simp(disch:=try exact ag)[toH]
   have hli:cO 1 [D.int IntKind.i64 0] [(0,I r)] [b0,(1,.vars [.d (.bool s),ac2.v d.length (d.map i9)]),ac2.b d.length (d.map i9)]=some ([i9 r],[b0,(1,.vars [.d (.bool s),ac2.v d.length (d.map i9)]),ac2.b d.length (d.map i9)]):=by
    simp[cO,i9,jv,iH,toD]
   rw[hli];simp(disch:=try exact ag);refine hO ac2 (k:=1) (cs:=[i9 r]) aa (by rfl) (by simp[ac2]) (by simp[ac2]) rfl af aa (by simp[ac2]) ?_;simp(disch:=try exact ag)[ac2,hl,hu,e1,e2,hh];simpa[toH,ac2]using this
theorem AU{s:Bool}{n:Nat}(hw:w<900000000)(hn:n<10^w)(T:LuQ)(hT:T=if s then 45::dS n w else dS n w)(hp:[45].isPrefixOf T=s):CP Y F.dq [S T] (wh (s&&decide (0<n)) n):=by
 refine oI ?_;simp(disch:=try exact ag)[dq];refine cd (xT s hp) ?_;simp(disch:=try exact ag);refine jD (l:=[S (dS n w)]) (h:=toH s (1,.vars [.d (.bool false),.d nPQ]) []) (fun q=>?_) ?_
 .cases s
  .simp at hT;subst hT;simp(disch:=try exact ag)[toH,tM,tP,ac2]
  .simp at hT;subst hT;simp(disch:=try exact ag)[toH,tM,tP,ac2]
 simp(disch:=try exact ag);refine lo (AV s _ _ _ rfl w n [] bK hn (fun x hx=>by simp at hx) fun d hd1 hd2 hd3=>?_);simp[val]at hd2 hd3;have ht:=re (s:=s) hd1 aa;rw[hd3]at ht;simp(disch:=try exact ag)[toH]
 obtain⟨h',h1,h2⟩:=uR ac2 (L:=d.length) (cells:=d.map i9) (h:=[(1,.vars [.d (.bool false),.d nPQ]),(1,.vars [.d (.bool s),ac2.v d.length (d.map i9)]),ac2.b d.length (d.map i9)]) rfl (by simp[ac2]);refine cdz (ds:=[.agg [.d (.bool s),lst i9 d]]) (h':=h') ?_ ht ?_
 .simp[aS,bJ,h1,lst]
 .rw[if_neg (by simp[wh,fN,Do,et,lst])];rcases h2 with⟨_,rfl⟩|⟨_,rfl⟩
  .simp(disch:=try exact ag)[wh,ve,et];exact k9 _ _ _
  .simp(disch:=try exact ag)[wh,ve,et,ac2];exact k9 _ _ _
theorem BS(hz:ndg z.natAbs<900000000):CP Y F.dq [S (itoa z)] (jz z):=by
 have:=AU (s:=decide (z<0)) hz (cY z.natAbs) (itoa z) (by unfold itoa ai;simp) (by
  unfold itoa;split
  .rename_i h;simp[h]
  .rename_i h;have h1:=tg z.natAbs;cases hI:ai z.natAbs with
   |nil=>exact absurd hI (xp _)
   | cons b t=>
    rw[hI]at h1;simp at h1;simp[h];simpa[List.isPrefixOf]using Ne.symm h1)
 have e:(decide (z<0)&&decide (0<z.natAbs))=decide (z<0):=by
  rw[<-Bool.decide_and,decide_eq_decide];omega
 rw[e]at this;exact this
theorem w8(h1 : -9223372036854775808<z)(h2:z<9223372036854775808):CP Y F.dt [I z] (jz z):=by
 refine oJ ?_;have hn:ndg z.natAbs<=19:=cN (by simp only[Nat.reducePow];omega) aa;have ht:=BS (z:=z) aa;unfold jz at ht ⊢;generalize decide (z<0)=s at *;simp(disch:=try exact ag)[dt];refine cd (tn h1 h2) ?_;generalize z.natAbs=n at *;simp(disch:=try exact ag);refine cd ht ?_
 simp(disch:=try exact ag)[wh,ve,et];exact k9 _ _ _
theorem A7(k:Nat):Z^k=10^(9*k):=by rw[Xc];rfl
theorem zP(s:Bool)(k:KL)(h0:Hp)(hh:h0.length=1):∀(q p:LnQ),(p++q).length<100000000->aH Z (p++q)->A8 (p++q)->q≠[] ->
  (k (.exit 0) [S (ai (val Z (p++q)))] [(1,.vars [.d (.bool s),lst i9 (p++q)])]) ->
  lp (fJ (CX Y) (.ptr 0 1 0 2)) [] h0 [S (dS (val Z p) (9*p.length)),I p.length] [(1,.vars [.d (.bool s),lst i9 (p++q)])] k
 |[]=>fun p hN hs hn hq hk=>absurd rfl hq
 | x::q=>by
  intro p hN hs hn hq hk;have hx:x<Z:=hs x af;have hx2:x<1000000000:=hx;have hvp:val Z p<10^(9*p.length):=by rw[<-A7];exact jE bB (fun y hy=>hs y (by simp[hy]))
  have hnd:ndg x<=9:=cN (by simpa using hx2) ae;have hnd1:=md x;have hil:(ai x).length=ndg x:=bh _ _;have hit:itoa (x:Int)=ai x:=by unfold itoa;rw[if_neg aa];rfl
  have hpl:(dS (val Z p) (9*p.length)).length=9*p.length:=bh _ _;simp at hN;refine aj ?_;simp(disch:=try exact ag)[fJ];refine cd (DG (z:=x) aa aa) ?_;rw[hit];cases q with
  | nil=>
   have hx0:x≠0:=by have:=hn af;simpa using this
   have he:ai (val Z (p++[x]))=ai x++dS (val Z p) (9*p.length):=by
    rw[Kn,A7];exact R4 aa hvp
   rw[he]at hk;generalize dS (val Z p) (9*p.length)=L at *;generalize ai x=M at *;clear he;simp(disch:=try exact ag);refine jD (l:=[S M]) (h:=[(1,.vars [.d (.bool s),lst i9 (p++[x])])]) (fun q=>?_) ?_
   .simp(disch:=try exact ag)
   simp(disch:=try exact ag)[hil,hpl,hh];refine aj ?_;simp(disch:=try exact ag)[fJ];exact hk
  | cons y q=>
   have hpad:=A6 (n:=x) (w:=9) hnd
   have he:dS (val Z (p++[x])) (9*(p++[x]).length)=dS x 9++dS (val Z p) (9*p.length):=by
    have:=AR (9*p.length) 9 (val Z (p++[x]));rw[Zm,List.length_singleton,show 9*(p.length+1)=9+9*p.length by omega,this,Kn,A7,Yr _ _ (Yj ae),Wr hvp,Zp,AQ]
   have:=zP s k h0 hh (y::q) (p++[x]) bK (by simpa using hs) (by simpa using hn) af (by simpa using hk);rw[he]at this;have hdl:(dS x 9).length=9:=bh _ _;rw[<-hpad]at this hdl;generalize dS (val Z p) (9*p.length)=L at *;generalize ai x=M at *;clear he hk hpad hs hn hvp;simp(disch:=try exact ag);refine aT ?_
   simp(disch:=try exact ag)[hil];rw[show(9:Int)-(ndg x:Int)=((9-ndg x:Nat):Int) by omega];refine cd (yo aa) ?_;simp(disch:=try exact ag)[hil,hpl,hh];simpa using this
theorem Bt{s:Bool}{n:Nat}(hn:aic n<100000000)(hs:n=0->s=false):CP Y F.bu [wh s n] (S (if s then 45::ai n else ai n)):=by
 refine nX ?_;by_cases h0:n=0
 .subst h0;rw[hs rfl];simp(disch:=try exact ag)[bu,wh,et,j4];exact fD (by unfold ai ndg;rfl)
 .have hd:dig Z n≠[]:=fun e=>h0 ((kJ ax).1 e)
  have hlen:¬(dig Z n).length=0:=fun e=>hd (Zf e)
  have hsm:=cJ ax n;have hno:=FD ax n;have hv:=iS ax n;have hil:(ai n).length=ndg n:=bh _ _
  have hnn:ndg n<=9*aic n:=cN (by
   have:=jE bB hsm;rw[hv,A7]at this;exact this) (by unfold aic;omega)
  unfold aic at hn hnn;generalize hD:dig Z n=d at *;simp(disch:=try exact ag)[bu,wh,et,hD,hlen];refine lo (zP s _ _ rfl d [] (by simpa using hn) (by simpa using hsm) (by simpa using hno) hd ?_);simp only[List.nil_append,hv];generalize ai n=M at *;cases s
  .simp(disch:=try exact ag);refine jD (l:=[S M]) (h:=[(1,.vars [.d (.bool false),lst i9 d])]) (fun q=>?_) ?_
   .simp(disch:=try exact ag)
   exact fD rfl
  .simp(disch:=try exact ag);refine jD (l:=[S (45::M)]) (h:=[(1,.vars [.d (.bool true),lst i9 d])]) (fun q=>?_) ?_
   .simp(disch:=try exact ag)[hil]
   exact fD rfl
theorem yc(hz:aic z.natAbs<100000000):CP Y F.bu [jz z] (S (itoa z)):=by have:=Bt (s:=decide (z<0)) hz (by intro h;simp;omega);unfold itoa jz;simpa using this
theorem Ou{n:Nat}(h2:n<18446744073709551616):CP Y F.dY [U n,I 10] (S (ai n)):=by
 refine vw ?_;have hd1:=md n;have hd2:ndg n<=20:=cN aa aa;have hn:=cY n;by_cases hs:(n:Int)<100
 .simp(disch:=try exact ag)[dY,hs];refine cd (KM (n:=n) aa) ?_;exact fD rfl
 .have hn0:0<n:=aa;have hit:ai n=dS n (ndg n):=rfl;have hlo:=BH n hn0;generalize ndg n=d at *
  obtain ⟨mid,post,hm,hp,hcell⟩:∃mid post:LdQ,mid.length=d∧post.length=24-d∧List.replicate 24 (D.int .u8 0)=[]++(mid++post):=by
   refine⟨List.replicate d (.int .u8 0),List.replicate (24-d) (.int .u8 0),af,af,?_⟩;rw[X2,show d+(24-d)=24 by omega];rfl
  simp[dY,hs];refine cd (Ab hlo hn hd1 h2) ?_;simp only[List.replicate]at hcell;rw[hcell];rw[show[(1,Bk.data 1 ([]++(mid++post)) true false),nnQ]=cH ([]++(mid++post))from rfl];rw[IH bK d rfl aa];simp;refine pT (h':=cH ([]++((dS n d).map u8++post))) (acE (pre:=[]) rfl hm aa aa hn h2) ?_ af
  rw[IH (by simp[bh];omega) d rfl aa];simp;rw[OH (bs:=dS n d) (by simp[bh];omega) aa (by simp[bh,List.take_append,Z6]) (by simp[bh])];rw[hit]
  try simp
  exact fD rfl
theorem Mi{n:Nat}(h:n<18446744073709551616):CP Y F.gN [U n,I 10] (S (ai n)):=by refine wG ?_;simp[gN];refine cd (Ou h) ?_;exact fD rfl
theorem yU{n:Nat}(h:n<18446744073709551616):CP Y F.iM [U n] (S (ai n)):=by refine JI ?_;simp[iM];refine cd (Mi h) ?_;exact fD rfl
theorem xX:∀(l:LuQ)(a:Nat),pW a l=fE a l
 |[],_=>rfl
 |c::l,a=>xX l _
theorem digit_eq(c:UInt8):oN c=qt c:=by simp only[oN,qt];rw[Xz];simp
theorem Rz{n:Nat}(h:n<10000000000000000000):CP Y F.fH [S (ai n),I 10,I 64] (.tup [U n,.d (.pl .nilIface)]):=by
 have hd:=dZ n;have hc:=tA n
 have hl:(ai n).length<=1000:=by
  have:=cN (n:=n) (d:=19) aa ae;rw[ai,bh];omega
 simp only[qR,Z8]at hc
 have hall:(ai n).all oN=true:=by
  rw[<-hc.1.2];congr 1;funext c;exact digit_eq c
 have ho:Y.X.orc F.fH [.string ⟨⟨ai n⟩⟩,.int .i64 10,.int .i64 64]=some (.tuple #[.int .u64 n,.nilIface]):=by
  have e:∀a,Y.X.orc F.fH a=Lh a:=fun a=>by
   show(match Nat.beq F.fH F.fH with|true=>Lh a|false=>none)=_
   rw[X7]
  rw[e];unfold Lh;simp only;rw[if_pos ⟨trivial,trivial,xp n,hall,hl,by rw[xX,hd];exact h⟩,xX,hd]
 exact CP.orc ho (by intro x hx;simp only[Zo,Ys,or_false]at hx;rcases hx with rfl|rfl|rfl<;>rfl) rfl
theorem xF{n:Nat}(h:n<10000000000000000000):CP Y F.jh [S (ai n)] (.tup [U n,B true]):=by refine C4 ?_;simp[jh];refine cd (Rz h) ?_;simp[Jc];exact aG (zK _ _) rfl
theorem kZ(n:Nat):nS (S (ai n))=some (I (ndg n)):=by
 show some (I (ai n).length)=_
 rw[ai,bh]
theorem DU(a b:Nat):CP Y F.fU [S (ai a),S (ai b)] (if ndg a<=18∧ndg b<=18 then .tup [U a,U b,B true]else .tup [U 0,U 0,B false]):=by
 refine FG ?_;have la:=kZ a;have lb:=kZ b;by_cases h1:18<ndg a
 .rw[if_neg aa];simp(disch:=try exact ag)[fU,la,lb,h1];exact jY (zK _ _) (zK _ _) rfl
 by_cases h2:18<ndg b
 .rw[if_neg aa];simp(disch:=try exact ag)[fU,la,lb,h1,h2];exact jY (zK _ _) (zK _ _) rfl
 .rw[if_pos aa];have ha:a<10000000000000000000:=by have:=cY a;have:=Z4 (n:=10) ae (show ndg a<=18 by omega);omega
  have hb:b<10000000000000000000:=by have:=cY b;have:=Z4 (n:=10) ae (show ndg b<=18 by omega);omega
  simp(disch:=try exact ag)[fU,la,lb,h1,h2];refine cd (xF ha) ?_;simp;refine cd (xF hb) ?_;simp;exact jY (zK _ _) (zK _ _) rfl
theorem acO(l:LuQ)(h:Hp)(k:kkQ):cvB (S l) h k=k (lst u8 l) h:=rfl
variable{h:Hp}
theorem WX{C0:Nat}(l:LuQ)(hl:l.length<=9)(hd:l.all qt=true)(k:KL)(h0 H:Hp)(hh:h0.length=H.length):∀(q p:LuQ),p++q=l->k (.exit 2) [U (fE 0 l:Nat)] H ->
  lp (pP (CX Y) h.length (lst u8 l) (I l.length)) [] h0 [U (fE 0 p:Nat),I p.length] H k
 | []=>by
  intro p hp hk;simp at hp;subst hp;refine aj ?_;simp[pP];exact hk
 | c::q=>by
  intro p hp hk;have hpl:p.length<l.length:=by subst hp;simp
  have hc:nth 0 l p.length=c:=by subst hp;simp
  have hcd:qt c=true:=by
   rw[Zv]at hd;exact hd c (by subst hp;simp)
  rw[mA]at hcd
  have hpd:p.all qt=true:=by
   rw[Zv]at hd ⊢;exact fun x hx=>hd x (by subst hp;simp[hx])
  have e1:=fun h:Hp=>kv u8 l h (k:=.i64) (i:=(p.length:Int)) aa aa
  have e2:=fun h:Hp=>aC u8 0 l h (j:=p.length) hpl
  rw[hc]at e2;simp only[Int.toNat_natCast]at e1;have hb:=uG p 0 hpd
  have hb2:fE 0 p<1000000000:=by
   have:=Z4 (n:=10) ae (show p.length<=8 by omega);omega
  have e3:fE 0 (p++[c])=10*fE 0 p+(c.toNat-48):=by
   rw[vy];simp only[fE,List.foldl_cons,List.foldl_nil];omega
  have ih:=WX (C0:=C0) l hl hd k h0 H hh q (p++[c]) (by simpa using hp) hk;rw[e3]at ih;obtain⟨t,ht⟩:=mnQ (fE 0 p);rw[ht]at ih hb2 ⊢;have e4:(10:Int)*(t:Int)+((c.toNat:Int)-48)=((10*t+(c.toNat-48):Nat):Int):=aa;obtain⟨t2,ht2⟩:=mnQ (10*t+(c.toNat-48));rw[ht2]at ih e4;have hcb:=hcd.1;have hcb2:=hcd.2;refine aj ?_
  simp(disch:=try exact ag)[pP,e1,e2,u8,e4];simpa[hh]using ih
def cuH(h:Hp)(l:LnQ):Hp:=h++[(1,.data 1 (l.map u6) true false),nnQ,nnQ]
theorem QF(h:Hp)(l:LnQ):(cuH h l)[h.length]?=some (1,.data 1 (l.map u6) true false):=by simp[cuH]
theorem abq(h:Hp)(l l':LnQ):(cuH h l).set h.length (1,.data 1 (l'.map u6) true false)=cuH h l':=by simp[cuH]
@[simp]theorem abr(h:Hp)(l:LnQ):(cuH h l).length=h.length+3:=by simp[cuH]
theorem WW(T:LuQ)(cap:Nat)(hL:T.length<9000000000)(k:KL)(h0:Hp)(hh:h0.length=h.length+3):∀(w n:Nat)(E:Int)(d:LnQ),(0<w->E=w)->(w=0->E<=0)->-20<=E->T.take w=dS n w->w<=T.length->d.length+(w+8)/9<=cap->cap<1000000000000->n<10^w->aH Z d ->
  (∀d':LnQ,aH Z d'->d'.length<=cap->val Z d'=val Z d+Z^d.length*n->k (.exit 0) [.ref h.length 1 0 d'.length cap cap] (cuH h (d'++List.replicate (cap-d'.length) 0))) ->
  lp (pQ (CX Y) h.length (S T)) [] h0 [.ref h.length 1 0 d.length cap cap,I E] (cuH h (d++List.replicate (cap-d.length) 0)) k:=by
 intro w
 induction w using Nat.strongRecOn with
 | _ w ih=>
  intro n E d hE1 hE0 hEl hT hwT hw hcap hn hs hk;by_cases h0w:w=0
  .subst h0w;have hE:=hE0 rfl;have g:¬0<E:=aa;simp at hn;subst hn;refine aj ?_;simp[pQ,g];exact hk d hs aa af
  .obtain rfl:=hE1 aa
   obtain ⟨v,u,hv1,hv9,hvw,hu,huv⟩:∃v u:Nat,1<=v∧v<=9∧w=u+v∧mx2 true 0 ((w:Int)-9)=u∧(u=0∨v=9):=by
    by_cases h9:w<=9
    .exact⟨w,0,aa,h9,aa,by simp[mx2];omega,.inl rfl⟩
    .exact⟨9,w-9,aa,aa,aa,by simp[mx2];omega,.inr rfl⟩
   have hD:=AR v u n;rw[<-hvw]at hD;have hlu:=bh u (n/10^v)
   have e1:(T.take w).drop u=dS (n%10^v) v:=by
    rw[hT,hD,Wd hlu];have:=AQ v (n%10^v) (n/10^v);rw[Xk]at this;exact this
   have e2:T.take u=dS (n/10^v) u:=by
    have:T.take u=(T.take w).take u:=by rw[List.take_take,Yv aa]
    rw[this,hT,hD,Xy hlu]
   have hp:0<10^v:=Yj ae;have hm:=Y7 n hp
   have hZv:10^v<=Z:=by
    have:10^v<=10^9:=Z4 ae hv9;exact this
   have hnu:n/10^v<10^u:=Wl (by rw[hvw,Xd,Y6]at hn;exact hn)
   have hval:n%10^v+Z*(n/10^v)=n:=by
    have:=Xk n (10^v);rcases huv with rfl|rfl
    .rw[Nat.pow_zero]at hnu;have h3:n/10^v=0:=Nat.lt_one_iff.1 hnu;rw[h3]at this ⊢;simpa using this
    .exact this
   have hdc:d.length<cap:=aa
   have ihh:=ih u aa (n/10^v) ((w:Int)-9) (d++[n%10^v]) (fun h=>by rcases huv with h1|h1<;>omega) (fun h=>by omega) aa e2 aa bK hcap hnu (hs.snoc (Z1 hm hZv)) (fun d' h1 h2 h3=>hk d' h1 h2 (by
    rw[h3,Kn,Zm,List.length_singleton,Nat.pow_succ,Nat.mul_assoc,Nat.add_assoc,<-Nat.mul_add,hval]))
   have hr:=xU v (n%10^v) hm;have hall:=nq v (n%10^v);have hlv:=bh v (n%10^v)
   have esl:slS (S T) (some (I u)) (some (I w))=some (S (dS (n%10^v) v)):=by
    rw[ND u w rfl rfl aa hwT,<-e1,List.drop_take]
   obtain⟨r,hre⟩:=mnQ (n%10^v);rw[hre]at esl hr hall hlv ihh;generalize dS r v=L at *
   have hli:∀h:Hp,cO 1 [D.int .u64 0] [(0,U r)] h=some ([u6 r],h):=fun h=>by
    simp[cO,jv,iH,toD,u6]
   have hcell:(d++List.replicate (cap-d.length) 0).take d.length++[r]++(d++List.replicate (cap-d.length) 0).drop (d.length+1)=(d++[r])++List.replicate (cap-(d++[r]).length) 0:=by
    rw[Xy rfl]
    have:List.replicate (cap-d.length) 0=0::List.replicate (cap-d.length-1) 0:=by
     rw[<-List.replicate_succ];congr 1;omega
    rw[this,<-List.drop_drop,Wd rfl];rw[show cap-d.length-1=cap-(d++[r]).length by simp;omega];simp
   have hcl:(d++List.replicate (cap-d.length) 0).length=cap:=by simp;omega
   have aw:=QF h (d++List.replicate (cap-d.length) 0);have gp:0<(w:Int):=aa;clear hk ih hval;refine aj ?_;simp(disch:=try exact ag)[pQ,gp,mxI,hu,esl];rw[acO];simp;refine lo (WX (C0:=0) L aa hall _ _ _ rfl L [] rfl ?_);rw[hr];simp[hli];refine OU aw hcl hdc ?_;rw[hcell,abq];simp(disch:=try exact ag)[hh]
   simpa using ihh
theorem T7{s by_:Nat}{z:D}{h:Hp}{i e:Nat}{b:Bk}{k:kkQ}{u:PU k}(hs:h[s]?=some (e,b))(hb:(by_:Int)*i<=281474976710656)(h1:(i:Int)<=9223372036854775807)
  (hk:k (.ref s (e+1) 0 0 i i) (h.set s (e+1,.data 1 (List.replicate i z) true false))):rh (mkS s by_ [z] h (.d (.int .i64 0)) (.d (.int .i64 i))) k u:=by unfold rh;simp only[mkS];rw[if_pos ⟨Int.le_refl _,aa,af,hb,h1⟩];simp only[new,hs,EJ,Zh,Int.toNat_natCast];exact hk
theorem tv(hu:(h.all fun x=>bW h.length x.2)=true){n:Nat}(hb:ndg n<900000000)(hcap:cap=ndg n/9+1):
  CI Y F.cW [S (ai n)] h (.new 1 ((dk cap n).map u6) true (dig Z n).length cap) h:=by
 refine GE ?_;have hl:=kZ n;have hlT:(ai n).length=ndg n:=by rw[ai,bh]
 have e1:((ndg n:Nat):Int)/9+1=(cap:Int):=aa
 have e3:(h++[(1,Bk.data 1 (List.replicate cap (D.int IntKind.u64 0)) true false),nnQ,nnQ])=cuH h ([]++List.replicate (cap-([]:LnQ).length) 0):=by
  simp[cuH,u6]
 have e4:(h++[(0,Bk.none),(0,Bk.none),(0,Bk.none)]).set h.length (1,Bk.data 1 (List.replicate cap (D.int IntKind.u64 0)) true false)=cuH h ([]++List.replicate (cap-([]:LnQ).length) 0):=by
  simp[cuH,u6]
 have hcap2:cap<1000000000000:=aa;simp(disch:=try exact ag)[cW,hl,Zs,e1];refine T7 (e:=0) (b:=.none) af aa aa ?_;simp[hl]
 try rw[e4]
 try rw[e3]
 refine lo (WW (ai n) cap aa _ _ (abr ..) (ndg n) n (ndg n) [] (fun _=>rfl) (fun h=>by have:=md n;omega) aa (by rw[<-hlT,Wq];rw[hlT];rfl) aa bK hcap2 (cY n) (fun x hx=>by cases hx) fun d hs hdl hv=>?_);simp only[iP];have hv':val Z d=n:=by rw[hv];simp[val]
 obtain⟨o,ho⟩:=mnQ (d++List.replicate (cap-d.length) 0);have hol:o.length=cap:=by rw[<-ho];simp;omega
 have hos:aH Z o:=by
  rw[<-ho];exact hs.append fun x hx=>by rw[List.mem_replicate]at hx;rw[hx.2];exact bB
 have hov:val Z o=n:=by rw[<-ho,ZJ,hv']
 rw[ho];have hfix:o=dk cap n:=by rw[<-hov,<-hol];exact DK o hos
 have hu2:((cuH h o).all fun x=>bW (cuH h o).length x.2)=true:=by
  have hm:(h.all fun x=>bW (cuH h o).length x.2)=true:=OV af hu;rw[cuH,Yp,<-cuH,hm];rfl
 have htk:o.take d.length=d:=by rw[<-ho,Xy rfl]
 have tr:=uu hu2 (QF h o) hol.symm (len:=d.length) (cap:=cap) (Z7 _) hcap2 hdl;rw[htk,<-rR ax hs,hv']at tr;refine pT tr ?_ af;rw[<-hfix];refine⟨by simp[cuH],by simpa using hu,.inr (.inr (.inl ⟨h.length,1,_,cap,1,o.map u6,true,by simp[hol],Z7 _,by simp[aw,cuH],rfl⟩))⟩
variable{h:Hp}{s e tot:Nat}{l:LuQ}{ex fr:Bool}
theorem ix8(hg:h[s]?=some (e,.data 1 (l.map u8) ex fr))(ht:tot=l.length){len:Nat}{i:Int}(h0:0<=i)(h1:i<len)(k:IntKind):ixV h 1 (.ref s e 0 len cap tot) (.d (.int k i))=some (.ptr s e i.toNat tot):=by grind[ixV,eG]
theorem ld8(hg:h[s]?=some (e,.data 1 (l.map u8) ex fr))(ht:tot=l.length)(hj:j<l.length):ld1 h (.ptr s e j tot)=some (.d (u8 (nth 0 l j))):=by
 have e1:tot=(l.map u8).length:=by simp[ht]
 grind[ld1,eG,aN]
theorem st8(hg:h[s]?=some (e,.data 1 (l.map u8) ex false))(ht:tot=l.length)(hj:j<l.length)(x:UInt8):st h 1 (.ptr s e j tot) (.d (u8 x))=some (h.set s (e,.data 1 ((l.set j x).map u8) ex false)):=by
 have e1:(l.map u8).take j++[u8 x]++(l.map u8).drop (j+1)=(l.set j x).map u8:=by
  rw[List.map_set,Ya,if_pos (by grind)];simp
 simp only[st,if_true,sto,eG hg,iH,toD];rw[if_pos ⟨trivial,by grind,by grind⟩];simp only[bS,List.length_singleton];rw[<-e1];rfl
theorem ap8{s' cap len:Nat}{x:UInt8}{q:kkQ}{u:PU q}(hg:h[s]?=some (e,.data 1 (l.map u8) ex false))(hold:l.length=cap)(hl:len<cap)
  (hq:q (.ref s e 0 (len+1) cap cap) (h.set s (e,.data 1 ((l.take len++[x]++l.drop (len+1)).map u8) ex false))):rh (apV false s' 1 1 (.ref s e 0 len cap cap) (.d (.sl 1 [u8 x])) h) q u:=by
 unfold rh apV;simp only[cellsOf];rw[if_pos af];unfold apC;rw[if_neg aa];simp only[eG hg];rw[if_pos ⟨trivial,by grind,aa,by grind,af⟩,if_pos aa]
 simp_all
def s8(h:Hp)(s e:Nat)(ex:Bool)(l:LuQ):Hp:=h.set s (e,.data 1 (l.map u8) ex false)
theorem TG{h:Hp}{s e:Nat}{ex:Bool}{l:LuQ}(hs:s<h.length):(s8 h s e ex l)[s]?=some (e,.data 1 (l.map u8) ex false):=by simp[s8,hs]
theorem TF{h:Hp}{s e:Nat}{ex:Bool}{l l':LuQ}:(s8 h s e ex l).set s (e,.data 1 (l'.map u8) ex false)=s8 h s e ex l':=by simp[s8]
@[simp]theorem ahN{h:Hp}{s e:Nat}{ex:Bool}{l:LuQ}:(s8 h s e ex l).length=h.length:=by simp[s8]
theorem UU{l:LuQ}{m n:Nat}{v:UInt8}(hm:m<l.length):nth 0 (l.set m v) n=if m=n then v else nth 0 l n:=by grind[nth]
theorem T9{h:Hp}{s e tot:Nat}{ex:Bool}(hs:s<h.length){L:Nat}(hL:L<=tot)(htb:tot<1000000000000)(l0:LuQ)(k:KL)(h0:Hp)(hh:h0.length=h.length):
  ∀(r i:Nat)(l:LuQ),L<=2*i+r->2*i<=L+1->l.length=tot->(∀m,m<L->(m<i∨L-1-m<i)->nth 0 l m=nth 0 l0 (L-1-m))->(∀m,m<L->i<=m->i<=L-1-m->nth 0 l m=nth 0 l0 m)->(∀m,L<=m->nth 0 l m=nth 0 l0 m) ->
  (∀l':LuQ,l'.length=tot->(∀m,m<L->nth 0 l' m=nth 0 l0 (L-1-m))->(∀m,L<=m->nth 0 l' m=nth 0 l0 m)->k (.exit 0) [] (s8 h s e ex l')) ->
  lp (dJ (CX Y) h.length (.ref s e 0 L cap tot)) [] h0 [I i,I ((L:Int)-1-i)] (s8 h s e ex l) k:=by
 intro r
 induction r with
 | zero=>
  intro i l hr hi hl h1 h2 h3 hk;refine aj ?_;have g:¬((i:Int)<(L:Int)-1-i):=aa;simp[dJ,g];exact hk l hl (fun m hm=>h1 m hm aa) h3
 | succ r ih=>
  intro i l hr hi hl h1 h2 h3 hk;by_cases g:i+i+1<L
  .obtain⟨j,hj⟩:=mnQ (L-1-i);have g':((i:Int)<(L:Int)-1-i):=aa;have ej:(L:Int)-1-i=(j:Int):=aa;have hgt:=TG (e:=e) (ex:=ex) (l:=l) hs;have a1:=ix8 hgt hl.symm (len:=L) (cap:=cap) (i:=(j:Int)) aa aa .i64;have a2:=ld8 hgt hl.symm (j:=j) aa;have b1:=ix8 hgt hl.symm (len:=L) (cap:=cap) (i:=(i:Int)) aa aa .i64
   have b2:=ld8 hgt hl.symm (j:=i) aa;have b3:=st8 hgt hl.symm (j:=i) aa (nth 0 l j);rw[TF]at b3;have hgt2:=TG (e:=e) (ex:=ex) (l:=l.set i (nth 0 l j)) hs;have c1:=ix8 hgt2 (by simpa using hl.symm) (len:=L) (cap:=cap) (i:=(j:Int)) aa aa .i64;have c3:=st8 hgt2 (by simpa using hl.symm) (j:=j) bK (nth 0 l i);rw[TF]at c3
   simp only[Int.toNat_natCast]at a1 b1 c1
   have nn:∀m,nth 0 ((l.set i (nth 0 l j)).set j (nth 0 l i)) m=if j=m then nth 0 l i else if i=m then nth 0 l j else nth 0 l m:=fun m=>by
    rw[UU bK,UU aa]
   have ihh:=ih (i+1) ((l.set i (nth 0 l j)).set j (nth 0 l i)) aa aa (by simpa using hl) (fun m hm hc=>by
    rw[nn];by_cases e1:j=m
    .rw[if_pos e1,h2 i aa (Z7 _) aa];congr 1;omega
    .rw[if_neg e1];by_cases e2:i=m
     .rw[if_pos e2,h2 j aa aa aa];congr 1;omega
     .rw[if_neg e2];exact h1 m hm aa) (fun m hm hc hc2=>by
    rw[nn,if_neg aa,if_neg aa];exact h2 m hm aa aa) (fun m hm=>by
    rw[nn,if_neg aa,if_neg aa];exact h3 m hm) hk
   have e2:(j:Int)-1=(L:Int)-1-((i+1:Nat):Int):=aa;rw[<-e2]at ihh;clear hk ih;refine aj ?_;rw[ej]at g' ⊢;simp(disch:=try exact ag)[dJ,g',a1,a2,b1,b2,b3,c1,c3];simpa[hh]using ihh
  .refine aj ?_;have g':¬((i:Int)<(L:Int)-1-i):=aa;simp[dJ,g']
   exact hk l hl (fun m hm=>by
    by_cases hc:m<i∨L-1-m<i
    .exact h1 m hm hc
    .rw[h2 m hm aa aa];congr 1;omega) h3
theorem aio{x y:LuQ}(hl:x.length=y.length)(h:∀c,c<x.length->nth 0 x c=nth 0 y c):x=y:=by grind[Wp,aN]
theorem aaj{h:Hp}(hu:(h.all fun x=>bW h.length x.2)=true){s e tot:Nat}{ex:Bool}(hs:s<h.length){L:Nat}(hL:L<=tot)(htb:tot<1000000000000){l:LuQ}(hl:l.length=tot):
  CI Y F.bP [.ref s e 0 L cap tot] (s8 h s e ex l) (.tup []) (s8 h s e ex ((l.take L).reverse++l.drop L)):=by
 refine sQ ?_;simp(disch:=try exact ag)[bP];have e1:(L:Int)-1=(L:Int)-1-((0:Nat):Int):=aa;rw[e1]
 have:=T9 (h:=h) (s:=s) (e:=e) (ex:=ex) hs (cap:=cap) hL htb l (exK [(.exit 0,fun l3 h_1=>qN (List.length (s8 h s e ex l)) (.tup []) (s8 h s e ex ((l.take L).reverse++l.drop L)) (.tup []) h_1)]) (s8 h s e ex l) af L 0 l aa aa hl (fun m hm hc=>by omega) (fun m _ _ _=>rfl) (fun m _=>rfl) fun l' hl' h1 h2=>by
  have hE:l'=(l.take L).reverse++l.drop L:=by
   refine aio (by grind) fun c hc=>?_
   by_cases hcL:c<L
   .rw[h1 c hcL,aN _ _ _ aa,aN _ _ _ (by grind)]
    grind
   .rw[h2 c aa,aN _ _ _ aa,aN _ _ _ (by grind)]
    grind
  subst hE;simp only[iP];refine⟨(Z6 af).symm,?_,.inl ⟨rfl,rfl⟩⟩;rw[Zv]at hu ⊢;intro x hx;rcases Yq hx with h|h
  .simpa using hu x h
  .rw[h];rfl
 trivial
def tH(l:LuQ):Hp:=[(1,.data 1 (l.map u8) true false),nnQ,nnQ]
theorem SX(l:LuQ):(tH l)[0]?=some (1,.data 1 (l.map u8) true false):=rfl
@[simp]theorem ahC(l:LuQ):(tH l).length=3:=rfl
theorem SV(l l':LuQ):(tH l).set 0 (1,.data 1 (l'.map u8) true false)=tH l':=rfl
theorem Pf{p:LnQ}{i N:Nat}(hi:i<p.length)(hp:p.length<100000000)(hN:N<1000000000000)(k:KL)(h0:Hp)(hh:h0.length=3):∀(w j x:Nat)(bs:LuQ),
  (i+1<p.length∧j+w=9∨¬i+1<p.length∧j+w<=9∧x<10^w∧(0<w->10^(w-1)<=x))->x<1000000000->bs.length+w<=N ->
  k (.exit 2) [.ref 0 1 0 (bs.length+w) N N] (tH (bs++(dS x w).reverse++List.replicate (N-(bs.length+w)) 0)) ->
  lp (cZ (CX Y) (lst u6 p) (I i)) [] h0 [.ref 0 1 0 bs.length N N,U x,I j] (tH (bs++List.replicate (N-bs.length) 0)) k
 | 0,j,x,bs=>by
  intro hc hx hb hk;have lp':bj (lst u6 p)=some (I p.length):=rfl;refine aj ?_;rcases hc with⟨g1,g2⟩|⟨g1,g2,g3,g4⟩
  .have g5:¬((j:Int)<9):=aa;simp[cZ,g5]
   grind[dS]
  .have x0:x=0:=by simpa using g3
   subst x0;have g1':¬((i:Int)+1<(p.length:Int)):=aa;by_cases g5:(j:Int)<9
   .simp(disch:=try exact ag)[cZ,g5,lp',g1']
    grind[dS]
   .simp[cZ,g5]
    grind[dS]
 | w+1,j,x,bs=>by
  intro hc hx hb hk;have lp':bj (lst u6 p)=some (I p.length):=rfl;have g5:(j:Int)<9:=aa;have hdg:u8 (dg (x%10))=.int .u8 (48+((x%10:Nat):Int)):=O5 (Y7 _ ae);obtain⟨m,hm⟩:=mnQ (x%10);obtain⟨d,hd⟩:=mnQ (x/10);have hm10:m<10:=aa;have e1:(x:Int)%10=(m:Int):=aa;have e2:(x:Int)/10=(d:Int):=aa;rw[hm]at hdg
  have hdec:(dS x (w+1)).reverse=dg m::(dS d w).reverse:=by rw[dS,hd,hm];simp
  have ih:=Pf hi hp hN k h0 hh w (j+1) d (bs++[dg m]) (by
   rcases hc with⟨g1,g2⟩|⟨g1,g2,g3,g4⟩
   .exact .inl ⟨g1,aa⟩
   .refine .inr ⟨g1,aa,?_,fun hw=>?_⟩
    .omega
    .have:=g4 aa;rw[<-hd,W8 ae,<-Nat.pow_succ,show(w-1).succ=w+1-1 by omega];omega) aa (by grind) (by
   grind)
  have hcell:(bs++List.replicate (N-bs.length) 0).take bs.length++[dg m]++(bs++List.replicate (N-bs.length) 0).drop (bs.length+1)=(bs++[dg m])++List.replicate (N-(bs++[dg m]).length) 0:=by
   rw[Xy rfl]
   have:List.replicate (N-bs.length) (0:UInt8)=0::List.replicate (N-bs.length-1) 0:=by
    rw[<-List.replicate_succ];congr 1;omega
   rw[this,<-List.drop_drop,Wd rfl];rw[show N-bs.length-1=N-(bs++[dg m]).length by grind];simp
  have hcl:(bs++List.replicate (N-bs.length) 0).length=N:=by simp;omega
  have hli:∀h:Hp,cO 1 [D.int .u8 0] [(0,.d (.int .u8 (48+(m:Int))))] h=some ([u8 (dg m)],h):=fun h=>by
   simp_all[cO,jv,iH,toD]
  have hx0:¬i+1<p.length->0<(x:Int):=fun h=>by
   grind
  clear hk;refine aj ?_;by_cases g1:(i:Int)+1<(p.length:Int)
  .simp(disch:=try exact ag)[cZ,g5,lp',g1,Zx,Zs,e1,e2,hli];refine ap8 (SX _) hcl aa ?_;rw[hcell];simp only[SV];simp(disch:=try exact ag)[Zx,Zs,e2]
   simp_all
  .have g3:=hx0 aa;simp(disch:=try exact ag)[cZ,g5,lp',g1,g3,Zx,Zs,e1,e2,hli];refine ap8 (SX _) hcl aa ?_;rw[hcell];simp only[SV];simp(disch:=try exact ag)[Zx,Zs,e2]
   simp_all
theorem agl{l:LuQ}{L:Nat}(hl:l.length=N)(hL:L<=N):cvT (tH l) (.ref 0 1 0 L N N)=some (S (l.take L)):=by simp only[cvT,cellsOf,tH,aw];simp[hl,hL,<-List.map_take,Cc]
def txS(p:LnQ)(i:Nat):LuQ:=if i<p.length then(dS (val Z (p.take i)) (9*i)).reverse else(ai (val Z p)).reverse
theorem O8{p:LnQ}(hp:aH Z p)(hne:p≠[])(i:Nat)(hi:i<=p.length):(txS p i).length<=9*p.length:=by
 unfold txS;split
 .simp[bh];omega
 .have h1:=jE (B:=Z) bB hp;rw[A7]at h1;have:=cN h1 (by have:=Xj.2 hne;omega);simp[ai,bh];exact this
theorem SL{p:LnQ}(hp:aH Z p)(hn:A8 p){i:Nat}(hi:i<p.length):
  ∃w,(i+1<p.length∧0+w=9∨¬i+1<p.length∧0+w<=9∧nth 0 p i<10^w∧(0<w->10^(w-1)<=nth 0 p i))∧txS p (i+1)=txS p i++(dS (nth 0 p i) w).reverse:=by
 obtain⟨x,hx⟩:=mnQ (nth 0 p i);have hxZ:x<Z:=by rw[<-hx];exact hp.getD bB i
 have hv:=yz (B:=Z) p hi;rw[show p.getD i 0=x from hx]at hv;have hlow:=jE (B:=Z) bB (hp.take i);rw[Zr,Yv aa]at hlow;rw[A7]at hlow hv;obtain⟨r,hr⟩:=mnQ (val Z (p.take i));rw[hr]at hlow hv;rw[hx];by_cases hl:i+1<p.length
 .refine⟨9,.inl ⟨hl,rfl⟩,?_⟩;have hpp:0<10^(9*i):=Yj ae;rw[txS,if_pos hl,txS,if_pos hi,hr,hv,show 9*(i+1)=9+9*i by omega,AR,Yr _ _ hpp,Wr hlow,Zp,AQ,List.reverse_append]
 .have hip:i+1=p.length:=aa
  have hx0:0<x:=by
   have hne:p≠[]:=fun e=>by rw[e]at hi;simp at hi
   have:=hn hne;rw[List.getLast_eq_getElem]at this;rw[<-hx,aN _ _ _ hi];have e:p.length-1=i:=aa;simp only[e]at this;omega
  refine⟨ndg x,.inr ⟨hl,?_,cY x,fun _=>BH x hx0⟩,?_⟩
  .have:ndg x<=9:=cN (by simp only[Z]at hxZ;omega) ae;omega
  .rw[txS,if_neg hl,txS,if_pos hi,hr]
   have hval:val Z p=r+10^(9*i)*x:=by
    have:p.take (i+1)=p:=Z6 aa;rw[<-hv,this]
   rw[hval,R4 hx0 hlow,List.reverse_append];rfl
theorem Pg{p:LnQ}(hp:aH Z p)(hn:A8 p)(hne:p≠[])(hpl:p.length<100000000)(k:KL)(h0:Hp)(hh:h0.length=3){N:Nat}(hN:N=9*p.length) :
  ∀(r i:Nat),i+r=p.length->k (.exit 0) [.ref 0 1 0 (txS p p.length).length N N] (tH (txS p p.length++List.replicate (N-(txS p p.length).length) 0)) ->
  lp (iW (CX Y) (lst u6 p) (lst u6 p) (I p.length)) [] h0 [.ref 0 1 0 (txS p i).length N N,I i] (tH (txS p i++List.replicate (N-(txS p i).length) 0)) k
 | 0,i=>by
  intro hi hk;have:i=p.length:=aa;subst this;refine aj ?_;simp[iW];exact hk
 | r+1,i=>by
  intro hi hk;have hil:i<p.length:=aa;obtain⟨w,hw,hst⟩:=SL hp hn hil;have ih:=Pg hp hn hne hpl k h0 hh hN r (i+1) aa hk;have hlen2:=O8 hp hne (i+1) aa;rw[hst]at ih hlen2;have hlw:(txS p i++(dS (nth 0 p i) w).reverse).length=(txS p i).length+w:=by simp[bh]
  rw[hlw]at ih hlen2;have e1:=fun h:Hp=>kv u6 p h (k:=.i64) (i:=(i:Int)) aa aa
  have e2:=fun h:Hp=>E5 p h (j:=i) hil
  simp only[Int.toNat_natCast]at e1;have hxZ:nth 0 p i<1000000000:=by have:=hp.getD bB i;simp only[Z]at this;exact this
  refine aj ?_;simp(disch:=try exact ag)[iW,e1,e2];refine lo (Pf hil hpl aa _ _ rfl w 0 (nth 0 p i) (txS p i) hw hxZ aa ?_);simp(disch:=try exact ag)[hh];simpa using ih
theorem fj:ai 0=[48]:=by rw[ai,show ndg 0=1 by unfold ndg;simp];rfl
theorem uU{n:Nat}(hb:(dig Z n).length<100000000):CP Y F.aP [pcs n] (S (ai n)):=by
 refine wi ?_;obtain⟨p,hp⟩:=mnQ (dig Z n);have hs:aH Z p:=by rw[<-hp];exact cJ ax n
 have hno:A8 p:=by rw[<-hp];exact FD ax n
 have hv:val Z p=n:=by rw[<-hp];exact iS ax n
 rw[pcs,hp];rw[hp]at hb;have lP:bj (lst u6 p)=some (I p.length):=rfl;by_cases hne:p=[]
 .subst hne;have:n=0:=by rw[<-hv];rfl
  subst this;simp[aP,lP];exact fD fj.symm
 .have hpos:=Xj.2 hne;obtain⟨N,hN⟩:=nmQ (9*p.length);have e9:(9:Int)*(p.length:Int)=(N:Int):=aa;have g1:¬((p.length:Int)=0):=aa;have g2:¬(p.length=0):=aa;have t0:txS p 0=[]:=by rw[txS,if_pos hpos];simp[dS,val]
  have tl:txS p p.length=(ai n).reverse:=by rw[txS,if_neg aa,hv]
  have hln:=O8 hs hne p.length (Z7 _);rw[tl,List.length_reverse]at hln;simp(disch:=try exact ag)[aP,lP,g1,g2,hne,e9];refine T7 (e:=0) (b:=.none) rfl aa aa ?_;simp[lP]
  have hz:[(1,Bk.data 1 (List.replicate N (D.int IntKind.u8 0)) true false),nnQ,nnQ]=tH (txS p 0++List.replicate (N-(txS p 0).length) 0):=by
   rw[t0];simp[tH,u8]
  have main:=Pg hs hno hne hb (exK [(.exit 0,fun l7 h=>
   cai (CX Y).i h (.fn F.bP [] []) [(ge l7 0)] 2 fun v8 h=>
   bnd (cvT h (ge l7 0)) fun v9=>
   out (S (ai n)) v9 h)]) (tH (txS p 0++List.replicate (N-(txS p 0).length) 0)) rfl hN p.length 0 aa (by
   simp only[iP,tl,List.length_reverse,DJ];obtain⟨l,hl⟩:=mnQ ((ai n).reverse++List.replicate (N-(ai n).length) 0);have hll:l.length=N:=by rw[<-hl];simp;omega
   rw[hl];have rv:=aaj (h:=tH l) rfl (s:=0) (e:=1) (ex:=true) af (L:=(ai n).length) (cap:=N) (tot:=N) aa aa hll
   have hl2:(l.take (ai n).length).reverse++l.drop (ai n).length=ai n++List.replicate (N-(ai n).length) 0:=by
    rw[<-hl,Xy af,Wd af,List.reverse_reverse]
   rw[hl2]at rv;refine pT rv ?_ af
   show bnd (cvT (tH _) _) _
   rw[agl bK aa,Xy rfl];exact fD rfl)
  rw[t0]at main hz;rw[hz];exact main
end Go.Vm
