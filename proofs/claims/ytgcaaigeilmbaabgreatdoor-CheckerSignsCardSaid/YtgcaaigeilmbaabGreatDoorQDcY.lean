/- Lemmas. -/
import Derived.Test.YtgcaaigeilmbaabGreatDoorQStr
set_option linter.unusedVariables false
set_option linter.unusedSimpArgs false
namespace Go.Vm
open Go Go.Am Go.Big
variable{j i a cap n b c N f:Nat}{sa sb:Bool}{b2:Nat×Bk}
@[simp]theorem afR(n:Nat):V.d (i9 n)=I n:=id rfl
@[simp]theorem afJ(l:LnQ)(h:Hp)(hl:j<l.length):ld1 h (.dptr (l.map i9) j)=some (I ((nth 0 l j:Nat):Int)):=lC i9 0 l h hl
theorem aap(l:LnQ)(j x:Nat):(l.map i9).set j (.int .i64 x)=(l.set j x).map i9:=by rw[List.map_set];rfl
def tD(sa sb:Bool)(da db o:LnQ)(b2:Nat×Bk):Hp:=[(1,.vars [.d (.bool sa),lst i9 da]),(1,.vars [.d (.bool sb),lst i9 db]),b2,(1,.data 1 (o.map i9) true false)]
theorem aaK{da db:LnQ}(hda:aw Z da)(hdb:aw Z db)(hla:da.length<1000000000)(hlb:db.length<1000000000)(k:KL)(h0:Hp)(hh:h0.length=4)(N:Nat)(hN:N=da.length+db.length+1)(hi:i<da.length)(T:Nat)(hT:T<Z^(i+db.length+1)):
  ∀(r c j:Nat)(o:LnQ),j+r=db.length+1->c<Z->o.length=N->aw Z o->val Z o+Z^(i+j)*(c+da.getD i 0*val Z (db.drop j))=T ->
  (∀o':LnQ,o'.length=N->aw Z o'->val Z o'=T->k (.exit 2) [] (tD sa sb da db o' b2)) ->
  lp (eu (CX Y) (.ptr 0 1 0 2) (.ptr 1 1 0 2) (.ref 3 1 0 N N N) (I i)) [] h0 [I c,I j] (tD sa sb da db o b2) k:=by
 intro r
 induction r with
 | zero=>
  intro c j o hj hc ho hs hv hk;have hd:db.drop j=[]:=Zv aa;rw[hd]at hv;simp only[val,Nat.mul_zero,Nat.add_zero]at hv
  have c0:c=0:=by
   rcases Zl c with h|h
   .exact h
   .have:=Zy (Z^(i+j)) h;rw[show i+db.length+1=i+j by omega]at hT;omega
  subst c0;refine ai ?_;have g:¬j<db.length:=aa;simp(disch:=try exact ac)[eu,tD,g];exact hk o ho hs aa
 | succ r ih=>
  intro c j o hj hc ho hs hv hk;obtain⟨m,hm⟩:=nmQ (i+j);rw[<-hm]at hv;have hij:m<o.length:=aa;have hcase:(¬j<db.length∧c=0)∨j<db.length∨(¬j<db.length∧0<c):=aa;obtain⟨x,hx1,hx2⟩:∃x,da[i]=x∧da.getD i 0=x:=⟨_,rfl,by simp[hi]⟩;obtain⟨y,hy2⟩:=mnQ (db.getD j 0);have hx:=hda.getD aU i;have hy:=hdb.getD aU j;have hw:=hs.getD aU m
  have hst:=Kx (B:=Z) (o:=o) (j:=m) (c:=c) (a:=da.getD i 0) (y:=db.getD j 0) (v:=val Z (db.drop (j+1))) hij;rw[<-eV,hv]at hst;have hy0:¬j<db.length->db.getD j 0=0:=fun h=>by rw[Zz,List.getElem?_eq_none aa];rfl
  rw[hx2]at hx hst;rw[hy2]at hy hst hy0;obtain⟨p,hp⟩:=nmQ (x*y);have hxy:p<=999999999*999999999:=by rw[hp];exact Zg (by simp only[Z]at hx;omega) (by simp only[Z]at hy;omega)
  have hpi:(x:Int)*(y:Int)=(p:Int):=by rw[hp];simp
  rw[<-hp]at hst;have e1:((i:Int)+(j:Int))=(m:Int):=aa;have hZ:Z=1000000000:=rfl;have hNo:(N=o.length)=True:=eq_true ho.symm;obtain⟨w,hwm,hwd⟩:∃w,o[m]=w∧o.getD m 0=w:=⟨_,rfl,by simp[hij]⟩;rw[hwd]at hst hw
  have main:∀t:Nat,t=c+w+p ->
    bnd (biI .add (I i) (I j)) fun v18=>
    bnd (biI .rem (I t) (.d (.int .i64 1000000000))) fun v19=>
    bnd (ixV (tD sa sb da db o b2) 1 (.ref 3 1 0 N N N) v18) fun v20=>
    stD (tD sa sb da db o b2) 1 v20 v19 fun _ h=>
    bnd (biI .quo (I t) (.d (.int .i64 1000000000))) fun v22=>
    bnd (biI .add (I j) (.d (.int .i64 1))) fun v23=>
    lpK [] h0 (fun l h=>lp (eu (CX Y) (.ptr 0 1 0 2) (.ptr 1 1 0 2) (.ref 3 1 0 N N N) (I i)) [] h0 l h k) k .normal [v22,v23] h:=by
   intro t ht;have ht2:t<1000000000000000000:=by simp only[hZ]at *;omega
   have:=ih (t/Z) (j+1) (o.set m (t%Z)) aa (by simp only[hZ]at *;omega) (by simpa using ho) (hs.set (Zk _ aU)) (by rw[ht,show i+(j+1)=m+1 by omega,hx2];exact hst) hk;clear hst hk ih ht hv;simp(disch:=try exact ac)[tD,Z4,Z1,e1];rw[show((t:Int)%1000000000)=((t%1000000000:Nat):Int) by omega,aap]
   simp(disch:=try exact ac)[hh,Z4,Z1];simpa[tD,hZ]using this
  refine ai ?_;rcases hcase with⟨g,c0⟩|g|⟨g,c1⟩
  .subst c0;simp(disch:=try exact ac)[eu,tD,g];refine hk o ho hs ?_;rw[Zv aa]at hv;simpa[val]using hv
  .have hy3:db[j]=y:=by rw[<-hy2];simp[g]
   clear hst hv;simp(disch:=try exact ac)[eu,tD,g,e1,hNo,hwm];refine dy (l:=[I (c+w+p:Nat)]) (h:=tD sa sb da db o b2) (fun q=>?_) (main _ rfl);simp(disch:=try exact ac)[tD,g,gj,hx1,hy3,hpi]
  .have hy1:=hy0 g;subst hy1;simp only[Nat.mul_zero]at hp;subst hp;clear hst hv;simp(disch:=try exact ac)[eu,tD,g,e1,c1,hNo,hwm];refine dy (l:=[I (c+w:Nat)]) (h:=tD sa sb da db o b2) (fun q=>?_) (main _ af);simp(disch:=try exact ac)[tD,g]
theorem VH{da db:LnQ}(hda:aw Z da)(hdb:aw Z db)(hla:da.length<1000000000)(hlb:db.length<1000000000)(k:KL)(h0:Hp)(hh:h0.length=4)(N:Nat)(hN:N=da.length+db.length+1):
  ∀(r i:Nat)(o:LnQ),i+r=da.length->o.length=N->aw Z o->val Z o=val Z (da.take i)*val Z db ->
  (∀o':LnQ,o'.length=N->aw Z o'->val Z o'=val Z da*val Z db->k (.exit 0) [] (tD sa sb da db o' b2)) ->
  lp (iA (CX Y) (.ptr 0 1 0 2) (.ptr 1 1 0 2) (.ref 3 1 0 N N N)) [] h0 [I i] (tD sa sb da db o b2) k:=by
 intro r
 induction r with
 | zero=>
  intro i o hi ho hs hv hk;refine ai ?_;have g:¬i<da.length:=aa;simp(disch:=try exact ac)[iA,tD,g];refine hk o ho hs ?_;rw[hv,Z0 aa]
 | succ r ih=>
  intro i o hi ho hs hv hk;refine ai ?_;have g:i<da.length:=aa;have hb:=gr aU hdb;have hta:=gr aU (hda.take (i+1));rw[Zm,Yy aa]at hta
  have hsum:val Z o+Z^i*(da.getD i 0*val Z db)=val Z (da.take (i+1))*val Z db:=by
   rw[hv,tw da g,Nat.add_mul,Nat.mul_assoc]
  simp(disch:=try exact ac)[iA,tD,g];refine lo ?_
  have:=aaK (sa:=sa) (sb:=sb) (b2:=b2) hda hdb hla hlb (exK [(Exit.exit 2,fun l5 h=>bnd (biI .add (I i) (.d (.int .i64 1))) fun v6=>lpK [] h0 (fun l h=>lp (iA (CX Y) (.ptr 0 1 0 2) (.ptr 1 1 0 2) (.ref 3 1 0 N N N)) [] h0 l h k) k .normal [v6] h)]) (tD sa sb da db o b2) rfl N hN g (val Z (da.take (i+1))*val Z db)
   (by
    rw[show i+db.length+1=(i+1)+db.length by omega,Zr]
    exact Y6 hta hb) (db.length+1) 0 0 o aa aU ho hs (by simpa using hsum) (fun o' h1 h2 h3=>by
     simp(disch:=try exact ac)[tD,hh];exact ih (i+1) o' aa h1 h2 h3 hk)
  exact this
theorem qD{x y:Int}(hx:bz x.natAbs<400000000)(hy:bz y.natAbs<400000000):CP Y F.bh [iH x,iH y] (iH (x*y)):=by
 refine xS ?_
 have hsgn:(decide (x<0) !=decide (y<0)&&decide (0<x.natAbs*y.natAbs))=decide (x*y<0):=by
  rcases Int.lt_trichotomy x 0 with h1|h1|h1<;>rcases Int.lt_trichotomy y 0 with h2|h2|h2
  .have:=Int.mul_pos_of_neg_of_neg h1 h2;simp[h1,h2];omega
  .subst h2;simp
  .have:=Xh h1 h2;have h3:0<x.natAbs*y.natAbs:=Y4 aa aa;simp[h1,h3,this];omega
  .subst h1;simp
  .subst h1;simp
  .subst h1;simp
  .have:=Int.mul_neg_of_pos_of_neg h1 h2;have h3:0<x.natAbs*y.natAbs:=Y4 aa aa;simp[h2,h3,this];omega
  .subst h2;simp
  .have:=Wc h1 h2;have e1:¬x<0:=aa;have e2:¬y<0:=aa;simp[e1,e2];omega
 unfold iH wh;rw[Y3,<-hsgn];generalize decide (x<0)=sa at *;generalize decide (y<0)=sb at *;generalize x.natAbs=a at *;generalize y.natAbs=b at *;have ha:=aJ ah a;have hb:=aJ ah b;have va:=bG ah a;have vb:=bG ah b;unfold bz at hx hy;unfold bu;generalize dig Z a=da at *;generalize dig Z b=db at *
 simp(disch:=try exact ac)[bh];obtain⟨N,hN⟩:=nmQ (da.length+db.length+1);rw[show((da.length:Int)+(db.length:Int)+1)=(N:Int) by omega];have e0:List.replicate N (D.int IntKind.i64 0)=(List.replicate N 0).map i9:=by simp[i9]
 simp(disch:=try exact ac);rw[e0];refine lo (VH (sa:=sa) (sb:=sb) ha hb aa aa _ _ rfl N hN da.length 0 (List.replicate N 0) aa af (fun z hz=>by rw[Xl]at hz;rw[hz.2];exact aU) (by simp[rL,val]) fun o h1 h2 h3=>?_);rw[va,vb]at h3;have ht:=qH (s:=sa !=sb) h2 aa;rw[h3]at ht
 simp(disch:=try exact ac)[tD];refine cdz (ds:=[.agg [.d (.bool (sa !=sb)),lst i9 o]]) (h':=[(1,.vars [.d (.bool sa),lst i9 da]),(1,.vars [.d (.bool sb),lst i9 db]),(1,.vars [.d (.bool false),.d nPQ]),(1,.data 1 (o.map i9) true true)]) ?_ ht ?_
 .simp[av,aP,toD,aH,lst,h1];rw[Z0 (by simp[h1])]
 .simp(disch:=try exact ac)[wh,zq,bu,show gh (wh (sa !=sb&&decide (0<a*b)) (a*b))=false by simp[wh,gh,tf,bu,lst]];exact qU _ _ _
@[simp]theorem aaQ(l:LnQ)(h:Hp)(hl:j<l.length):ld1 h (.dptr (l.map u32) j)=some (.d (.int .u32 ((nth 0 l j:Nat):Int))):=lC u32 0 l h hl
@[simp]theorem afO(n:Nat):V.d (u32 n)=.d (.int .u32 n):=id rfl
theorem TU(h:a≠0):∃p x,dig W a=p++[x]∧x≠0∧aw W p∧x<W:=by
 have hne:dig W a≠[]:=fun e=>h ((sQ bT).1 e)
 have hs:=aJ bT a;refine⟨(dig W a).dropLast,(dig W a).getLast hne,(X7 hne).symm,pT bT a hne,fun x hx=>hs x (List.dropLast_subset _ hx),hs _ (List.getLast_mem hne)⟩
theorem QE(k:KL):∀(x n:Nat),n+bln x<4611686018427387904->x<W->k (.exit 0) [I (n+bln x:Nat)] []->lp (oX (CX Y)) [] [] [I n,.d (.int .u32 x)] [] k:=by
 intro x
 induction x using Nat.strongRecOn with
 | _ x ih=>
  intro n hn hx hk;refine ai ?_;by_cases h0:x=0
  .subst h0;simp(disch:=try exact ac)[oX];simpa[Fu]using hk
  .have hb:=Uo (n:=x) aa;rw[hb]at hn hk;simp(disch:=try exact ac)[oX];have:=ih (x/2) aa (n+1) aa aa (by rw[show n+1+bln (x/2)=n+(bln (x/2)+1) by omega];exact hk);simpa using this
theorem I5(ha:len a<2^40):CP Y F.js [nat a] (I (bln a)):=by
 have h40:(2:Nat)^40=1099511627776:=ae;refine Fh ?_;by_cases h0:a=0
 .subst h0;simp(disch:=try exact ac)[js,nat,pS,Fu]
 .obtain⟨p,x,hd,hx,hp,hxw⟩:=TU h0;have hv:=bG bT a;rw[hd]at hv;have hb:=Un (p:=p) (x:=x) hp hx;rw[<-afD,hv]at hb;have hlen:len a=p.length+1:=by simp[len,hd]
  rw[hlen]at ha;have hb32:bln x<=32:=rS (by simpa only[W]using hxw);have hnx:nth 0 (p++[x]) p.length=x:=af;simp(disch:=try exact ac)[js,nat,hd];rw[show(32*(p.length:Int))=((32*p.length:Nat):Int) by omega];refine lo (QE _ x (32*p.length) aa hxw ?_);rw[<-hb];simp(disch:=try exact ac)
theorem uC{n by_:Nat}{h:Hp}{cells:LdQ}{z:LdQ}(hn:0<n){l:Nat}(hl:0<l)(hc:cells.length=l*n)(hb:l*by_<=140737488355328){q:kkQ}{u:PU q}
  (hq:q (.ref (h.length+1) 1 0 l l cells.length) (h++[(1,.data n [] true false),(1,.data n cells false false)])) :
  rh (apV false (h.length+1) n by_ (.ref (h.length+0) 1 0 0 0 0) (.d (.sl l cells)) (h++[(1,.data n [] true false),nnQ])) q u:=by
 unfold rh apV;simp only[cellsOf];rw[if_pos hc];unfold apC;rw[if_neg aa];have hg:aH (h++[(1,Bk.data n [] true false),nnQ]) (h.length+0) 1=.data n [] true false:=by simp[aH]
 simp only[hg];rw[if_pos ⟨trivial,rfl,Z7 _,af,hc⟩,if_neg aa,if_pos (by simpa using hb)];simp only[if_true,new];have hs:(h++[(1,Bk.data n [] true false),nnQ])[h.length+1]?=some nnQ:=af;simp only[hs];simpa using hq
@[simp] theorem acP {α:Type}(f:α->D){l:List α}(h:Hp)(hl:0<l.length)(k:V->Prop)(u:PU k):rn (qK h .eql (lst f l) (.d nPQ)) k u=k (.d (.bool false)):=by
 cases l with
 |nil=>simp at hl
 |cons x l=>exact rfl
theorem LC{h:Hp}(hu:(h.all fun x=>aT h.length x.2)=true){l:LnQ}(hl:0<l.length)(hb:l.length<1000000000000):CI Y F.aY [lst u32 l] h (.new 1 (l.map u32) false l.length l.length) h:=by
 refine nU ?_;simp(disch:=try exact ac)[aY]
 have hli:fj 0 [D.int IntKind.u32 0] [] (h++[(0,Bk.none),(0,Bk.none)])=some ([],h++[(0,Bk.none),(0,Bk.none)]):=by
  simp[fj,fS,hO]
 rw[hli];simp(disch:=try exact ac);refine uC (z:=[]) ae hl af aa ?_;simp(disch:=try exact ac);refine⟨af,?_,.inr (.inr (.inl ⟨h.length+1,1,l.length,l.length,1,l.map u32,false,af,aa,by simp[aH],rfl⟩))⟩;simp only[Xz,hu,Y9]
 try simp[aT]
def u6(n:Nat):D:=.int .u64 n
abbrev U(n:Int):V:=.d (.int .u64 n)
@[simp]theorem afQ(n:Nat):V.d (u6 n)=U n:=id rfl
def pcs(n:Nat):V:=lst u6 (dig Z n)
theorem aay(n:Nat):pcs n=lst u6 (dig Z n):=rfl
theorem Er(l:LnQ)(h:Hp)(hl:j<l.length):ld1 h (.dptr (l.map u6) j)=some (U (nth 0 l j:Nat)):=lC u6 0 l h hl
variable{h:Hp}{s e tot:Nat}{l:LnQ}{ex fr:Bool}
theorem Co(hg:h[s]?=some (e,.data 1 (l.map u6) ex fr))(ht:tot=l.length){len:Nat}{i:Int}(h0:0<=i)(h1:i<len)(k:IntKind):ixV h 1 (.ref s e 0 len cap tot) (.d (.int k i))=some (.ptr s e i.toNat tot):=by simp only[ixV,gX hg];rw[if_pos ⟨by simp[ht],h0,h1⟩];simp
theorem Iz(hg:h[s]?=some (e,.data 1 (l.map u6) ex fr))(ht:tot=l.length)(hj:j<l.length):ld1 h (.ptr s e j tot)=some (U (nth 0 l j:Nat)):=by
 have e1:tot=(l.map u6).length:=by simp[ht]
 simp only[ld1,gX hg,if_pos e1,List.getElem?_map,List.getElem?_eq_getElem hj,Option.map_some,gj 0 l j hj];rfl
theorem Pv(hg:h[s]?=some (e,.data 1 (l.map u6) ex false))(ht:tot=l.length)(hj:j<l.length)(x:Nat):st h 1 (.ptr s e j tot) (U x)=some (h.set s (e,.data 1 ((l.set j x).map u6) ex false)):=by
 have e1:(l.map u6).take j++[u6 x]++(l.map u6).drop (j+1)=(l.set j x).map u6:=by
  rw[List.map_set,Yh,if_pos ak];simp
 simp only[st,if_true,sto,gX hg,hO,toD];rw[if_pos ⟨trivial,by simp[ht],ak⟩];simp only[cK,List.length_singleton];rw[<-e1];rfl
theorem aeH(hg:h[s]?=some (e,.data 1 (l.map u6) ex fr))(ht:tot=l.length){len:Nat}{i:Int}(h0:0<=i)(h1:i<=cap)(hlc:len<=cap):slV h 1 (.ref s e 0 len cap tot) none (some (I i))=some (.ref s e 0 i.toNat cap tot):=by simp only[slV,gX hg,boV];rw[if_pos ⟨aa,h1⟩];simp[ht,hlc]
theorem wA(hg:h[s]?=some (e,.data 1 (l.map u6) ex fr))(ht:tot=l.length){len:Nat}(h1:len<=cap)(hc:cap<=tot):aP h (.ref s e 0 len cap tot)=some (lst u6 (l.take len),h.set s (e,.data 1 (l.map u6) ex true)):=by simp only[aP,toD,gX hg];rw[if_pos ⟨by simp[ht],h1,ak⟩];simp[lst,List.map_take,cK];omega
theorem Gn{h:Hp}{s e cap tot:Nat}{l:LnQ}{ex fr:Bool}(hg:h[s]?=some (e,.data 1 (l.map u6) ex fr))(ht:tot=l.length)(hc:cap<=tot)(hb:cap<1000000000000)(k:KL)(h0:Hp)(hh:h0.length=h.length):∀len,len<=cap->k (.exit 0) [.ref s e 0 (gS (l.take len)).length cap tot] h->lp (bR (CX Y) h.length) [] h0 [.ref s e 0 len cap tot] h k
 | 0,hl,hk=>by
  refine ai ?_;simp[bR];simpa[gS]using hk
 | len+1,hl,hk=>by
  have e1:=Co hg ht (len:=len+1) (cap:=cap) (i:=(len:Int)) aa aa .i64;have e2:=Iz hg ht (j:=len) aa;have e3:=aeH hg ht (len:=len+1) (cap:=cap) (i:=(len:Int)) aa aa aa;have e4:l.take (len+1)=l.take len++[nth 0 l len]:=by rw[gj 0 l len aa,List.take_append_getElem]
  rw[Int.toNat_natCast]at e1 e3;refine ai ?_;by_cases h2:nth 0 l len=0
  .rw[e4,h2,mz]at hk;have ih:=Gn hg ht hc hb k h0 hh len aa hk;simp(disch:=try exact ac)[bR,e1,e2,e3,h2,hh];exact ih
  .rw[e4,rV h2]at hk;have e5:(l.take len++[nth 0 l len]).length=len+1:=by simp;omega
   rw[e5]at hk;simp(disch:=try exact ac)[bR,e1,e2,e3,h2];exact hk
theorem tY{h:Hp}(hu:(h.all fun x=>aT h.length x.2)=true){s e len tot:Nat}{l:LnQ}{ex fr:Bool}(hg:h[s]?=some (e,.data 1 (l.map u6) ex fr))(ht:tot=l.length)(hc:cap<=tot)(hb:cap<1000000000000)(hl:len<=cap):
  CI Y F.aI [.ref s e 0 len cap tot] h (.ref s e 0 (gS (l.take len)).length cap tot) h:=by refine qc ?_;simp[aI];refine lo (Gn hg ht hc hb _ _ rfl len hl ?_);simp;have hs:=bO hg;refine⟨af,by simpa using hu,.inl ⟨rfl,?_⟩⟩;simp[under,hs]
theorem Pm{h:Hp}{l0:LnQ}(k:KL)(h0:Hp)(hh:h0.length=h.length):∀l:LnQ,l.length<1000000000000->k (.exit 0) [lst u6 (gS l)] h->lp (bR (CX Y) h.length) [] h0 [lst u6 l] h k:=by
 intro l hb hk
 induction hn:l.length generalizing l with
 | zero=>
  have:l=[]:=Zt hn;subst this;refine ai ?_;simp[bR];exact hk
 | succ n ih=>
  obtain⟨l,x,rfl⟩:∃l' x,l=l'++[x]:=⟨l.dropLast,l.getLast (by intro e;simp[e]at hn),(X7 _).symm⟩;have hl:l.length=n:=by simpa using hn
  have e1:=fun h:Hp=>qt u6 (l++[x]) h (k:=.i64) (i:=(l.length:Int)) aa ak
  have e2:=fun h:Hp=>Er (l++[x]) h (j:=l.length) af
  have e3:=fun h:Hp=>aca u6 (l++[x]) h (i:=(l.length:Int)) aa ak af
  have e4:nth 0 (l++[x]) l.length=x:=af;simp only[Int.toNat_natCast,Wp]at e1 e3;rw[e4]at e2;have e5:((l++[x]).length:Int)=(l.length:Int)+1:=af;have e6:aj (lst u6 (l++[x]))=some (I ((l.length:Int)+1)):=by rw[<-e5];rfl
  have hb2:l.length<1000000000000:=by simp at hb;omega
  refine ai ?_;by_cases hx:x=0
  .subst hx;rw[mz]at hk;simp(disch:=try exact ac)[bR,e1,e2,e3,e6,hh];exact ih l hb2 hk hl
  .rw[rV hx]at hk;simp(disch:=try exact ac)[bR,e1,e2,e3,e6,hx];exact hk
theorem UO{h:Hp}(hu:(h.all fun x=>aT h.length x.2)=true){l:LnQ}(hb:l.length<1000000000000):CI Y F.aI [lst u6 l] h (lst u6 (gS l)) h:=by refine qc ?_;simp[aI];refine lo (Pm (l0:=l) _ _ rfl l hb ?_);simp;refine⟨af,by simpa using hu,.inl ⟨rfl,rfl⟩⟩
def RdP(h:Hp)(a:V)(l:LnQ):Prop:=aj a=some (I l.length)∧∀(t:Hp)(i:Nat),i<l.length->∃p,ixV (h++t) 1 a (I i)=some p∧ld1 (h++t) p=some (U (nth 0 l i:Nat))
theorem Pb(h:Hp)(l:LnQ):RdP h (lst u6 l) l:=by refine⟨rfl,fun t i hi=>⟨.dptr (l.map u6) i,?_,Er l _ hi⟩⟩;have:=qt u6 l (h++t) (k:=.i64) (i:=(i:Int)) aa aa;trivial
theorem Ec{l:LnQ}(h:i<n):nth 0 (l.take n) i=nth 0 l i:=by grind[nth]
theorem Di{h:Hp}{s e len tot:Nat}{l:LnQ}{ex fr:Bool}(hg:h[s]?=some (e,.data 1 (l.map u6) ex fr))(ht:tot=l.length)(hl:len<=tot):RdP h (.ref s e 0 len cap tot) (l.take len):=by
 have e1:(l.take len).length=len:=by simp;omega
 refine⟨by simp_all,fun t i hi=>⟨.ptr s e i tot,?_,?_⟩⟩
 .have hs:=bO hg;have:=Co (h:=h++t) (by rw[List.getElem?_append_left hs];exact hg) ht (len:=len) (cap:=cap) (i:=(i:Int)) aa aa .i64;trivial
 .have hs:=bO hg;rw[Ec aa];exact Iz (h:=h++t) (by rw[List.getElem?_append_left hs];exact hg) ht aa
def pH(h:Hp)(o:LnQ):Hp:=h++[(1,.data 1 (o.map u6) true false),nnQ]
theorem AQ(h:Hp)(o:LnQ):(pH h o)[h.length]?=some (1,.data 1 (o.map u6) true false):=by simp[pH]
theorem Sk(h:Hp)(o o':LnQ):(pH h o).set h.length (1,.data 1 (o'.map u6) true false)=pH h o':=by simp[pH]
@[simp]theorem Sl(h:Hp)(o:LnQ):(pH h o).length=h.length+2:=by simp[pH]
theorem Um{s:Nat}(hbc:b<=c)(h:Nat.blt s b=true):Nat.blt s c=true:=by grind[Nat.blt_eq]
mutual
theorem Jz{b c:Nat}(hbc:b<=c):∀v:V,under b v=true->under c v=true
 |.ref s ..,h=>Um hbc h
 |.ptr s ..,h=>Um hbc h
 |.agg l,h=>rM hbc l h
 |.tup l,h=>rM hbc l h
 | .fn _ x y,h=>by
  simp only[under,Z8]at h ⊢;exact⟨rM hbc x h.1,rM hbc y h.2⟩
 |.ifc _ x,h=>Jz hbc x h
 |.new ..,h=>by cases h
 |.junk,_=>rfl
 |.d _,_=>rfl
 |.dptr ..,_=>rfl
 |.cut _,h=>by cases h
theorem rM{b c:Nat}(hbc:b<=c):∀l:LwQ,o7 b l=true->o7 c l=true
 |[],_=>rfl
 | x::l,h=>by
  simp only[o7,Z8]at h ⊢;exact⟨Jz hbc x h.1,rM hbc l h.2⟩
end
theorem Ph(hbc:b<=c){x:Bk}(h:aT b x=true):aT c x=true:=by
 cases x with
 |vars l=>exact rM hbc l h
 |none=>rfl
 |data n cs ex fr=>rfl
theorem Nr(hbc:b<=c){h:Hp}(hu:(h.all fun x=>aT b x.2)=true):(h.all fun x=>aT c x.2)=true:=by grind[Ph]
variable{h:Hp}{t0 t1:V}{da db:LnQ}
theorem Pp(hb:RdP h t1 db)(hsb:aw Z db){x:Nat}(hx:x<Z)(hN:i+db.length<N)(hNb:N<1000000000000)(k:KL)(h0:Hp)(hh:h0.length=h.length+2)(T:Nat)(o0:LnQ):
  ∀(r c j:Nat)(o:LnQ),j+r=db.length->c<Z->o.length=N->aw Z o->val Z o+Z^(i+j)*(c+x*val Z (db.drop j))=T->(∀m,i+db.length<=m->nth 0 o m=nth 0 o0 m) ->
  (∀c' o',c'<Z->o'.length=N->aw Z o'->val Z o'+Z^(i+db.length)*c'=T->(∀m,i+db.length<=m->nth 0 o' m=nth 0 o0 m)->k (.exit 2) [U (c':Nat)] (pH h o')) ->
  lp (iR (CX Y) h.length (.ref h.length 1 0 N N N) (I i) (U x) t1 (I db.length)) [] h0 [U c,I j] (pH h o) k:=by
 intro r
 induction r with
 | zero=>
  intro c j o hj hc ho hs hv hf hk;have hjl:j=db.length:=aa;subst hjl;have hd:db.drop db.length=[]:=List.drop_length;rw[hd]at hv;simp only[val,Nat.mul_zero,Nat.add_zero]at hv;refine ai ?_;simp[iR]
  grind
 | succ r ih=>
  intro c j o hj hc ho hs hv hf hk;have hjl:j<db.length:=aa;obtain⟨m,hm⟩:=nmQ (i+j);rw[<-hm]at hv;have hij:m<o.length:=aa;obtain⟨y,hy2⟩:=mnQ (db.getD j 0);have hy:=hsb.getD aU j;have hw:=hs.getD aU m;have hst:=Kx (B:=Z) (o:=o) (j:=m) (c:=c) (a:=x) (y:=db.getD j 0) (v:=val Z (db.drop (j+1))) hij;rw[<-eV,hv]at hst;rw[hy2]at hy hst
  obtain⟨p,hp⟩:=nmQ (x*y);have hxy:p<=999999999*999999999:=by rw[hp];exact Zg (by grind[Z]) (by grind[Z])
  have hpi:(x:Int)*(y:Int)=(p:Int):=by rw[hp];simp
  rw[<-hp]at hst;have e1:((i:Int)+(j:Int))=(m:Int):=aa;have hZ:Z=1000000000:=rfl;obtain⟨w,hwd⟩:=mnQ (o.getD m 0);rw[hwd]at hst hw;obtain⟨pb,r1,r2⟩:=hb.2 [(1,.data 1 (o.map u6) true false),nnQ] j hjl;rw[show nth 0 db j=y from hy2]at r2;have r3:=Co (AQ h o) ho.symm (len:=N) (cap:=N) (i:=(m:Int)) aa aa .i64;have r4:=Iz (AQ h o) ho.symm hij
  have r5:=Pv (AQ h o) ho.symm hij ((c+w+p)%Z);rw[show nth 0 o m=w from hwd]at r4;rw[Int.toNat_natCast]at r3;rw[Sk]at r5
  change ixV (pH h o) 1 t1 (I j)=some pb at r1
  change ld1 (pH h o) pb=_ at r2
  have ih2:=ih ((c+w+p)/Z) (j+1) (o.set m ((c+w+p)%Z)) aa (by grind) (by grind) (hs.set (Zk _ aU)) (by rw[show i+(j+1)=m+1 by omega];omega)
   (fun n hn=>by rw[<-hf n hn];simp[nth,List.getElem?_set_ne (show m≠n by omega)]) hk
  clear hst hk ih hv;obtain⟨t,ht⟩:=mnQ (c+w+p);have ht2:t<1000000000000000000+2000000000:=by simp only[hZ]at *;omega
  rw[ht]at ih2 r5;obtain⟨tm,htm⟩:=mnQ (t%Z);obtain⟨td,htd⟩:=mnQ (t/Z);rw[htm]at ih2 r5;rw[htd]at ih2;have e2:(c:Int)+((w:Int)+(p:Int))=(t:Int):=aa;have e3:((t:Int)%1000000000)=(tm:Int):=by simp only[hZ]at htm;omega
  have e4:((t:Int)/1000000000)=(td:Int):=by simp only[hZ]at htd;omega
  refine ai ?_;simp(disch:=try exact ac)[iR,r1,r2,r3,r4,e1,hpi,e2,Z4,Z1,e3,e4,r5];trivial
theorem Me(ha:RdP h t0 da)(hsa:aw Z da)(hb:RdP h t1 db)(hsb:aw Z db)(hla:da.length<100000000)(hlb:db.length<100000000)(k:KL)(h0:Hp)(hh:h0.length=h.length+2)(hN:N=da.length+db.length):
  ∀(r i:Nat)(o:LnQ),i+r=da.length->o.length=N->aw Z o->val Z o=val Z (da.take i)*val Z db->(∀m,i+db.length<=m->nth 0 o m=0) ->
  (∀o',o'.length=N->aw Z o'->val Z o'=val Z da*val Z db->k (.exit 0) [] (pH h o')) ->
  lp (iS (CX Y) h.length t1 (.ref h.length 1 0 N N N) t0 (I da.length)) [] h0 [I i] (pH h o) k:=by
 intro r
 induction r with
 | zero=>
  intro i o hi ho hs hv hf hk;refine ai ?_;have g:¬i<da.length:=aa;simp[iS,g];rw[show i=da.length by omega,Yb]at hv
  grind
 | succ r ih=>
  intro i o hi ho hs hv hf hk;have hil:i<da.length:=aa;obtain⟨pa,r1,r2⟩:=ha.2 [(1,.data 1 (o.map u6) true false),nnQ] i hil;obtain⟨x,hx⟩:=mnQ (nth 0 da i);have hxs:x<Z:=by rw[<-hx];exact hsa.getD aU i
  rw[hx]at r2
  change ixV (pH h o) 1 t0 (I i)=some pa at r1
  change ld1 (pH h o) pa=_ at r2
  have hl:=hb.1;refine ai ?_;simp(disch:=try exact ac)[iS,r1,r2,hl];refine lo (Pp hb hsb hxs aa aa _ _ (Sl h o) (val Z o+Z^i*(x*val Z db)) o db.length 0 0 o aa aU ho hs af (fun _ _=>rfl) fun c' o' hc' ho' hs' hv' hf'=>?_);simp only[fc];obtain⟨m,hm⟩:=nmQ (i+db.length)
  have hml:m<o'.length:=aa;have r3:=Co (AQ h o') ho'.symm (len:=N) (cap:=N) (i:=(m:Int)) aa aa .i64;have r5:=Pv (AQ h o') ho'.symm hml c';rw[Int.toNat_natCast]at r3;rw[Sk]at r5;have e1:((i:Int)+(db.length:Int))=(m:Int):=aa;have e0:nth 0 o' m=0:=by rw[hf' m aa,hf m aa]
  have hvs:=xj (B:=Z) o' m c' hml;rw[show o'.getD m 0=0 from e0]at hvs
  have ih2:=ih (i+1) (o'.set m c') aa (by grind) (hs'.set hc') (by
   rw[tw da hil,show da.getD i 0=x from hx,Nat.add_mul,<-hv]
   grind) (fun n hn=>by
   simp only[nth,Zz,List.getElem?_set_ne (show m≠n by omega)];have:=hf' n aa;rw[hf n aa]at this;exact this) hk
  clear hvs hv' ih hk;simp(disch:=try exact ac)[hl,e1,r3,r5];trivial
theorem Ay(hu:(h.all fun x=>aT h.length x.2)=true)(ha:RdP h t0 da)(hsa:aw Z da)(hb:RdP h t1 db)(hsb:aw Z db)(hla:da.length<100000000)(hlb:db.length<100000000)(hN:N=da.length+db.length):
  CI Y F.bC [t0,t1] h (.new 1 ((bv N (val Z da*val Z db)).map u6) true (dig Z (val Z da*val Z db)).length N) h:=by
 refine vl ?_;have l0:=ha.1;have l1:=hb.1;have e1:((da.length:Int)+(db.length:Int))=(N:Int):=aa;simp(disch:=try exact ac)[bC,l0,l1,e1]
 have e2:h++[(1,Bk.data 1 (List.replicate N (D.int IntKind.u64 0)) true false),nnQ]=pH h (List.replicate N 0):=by
  simp[pH,u6]
 have e3:(h++[(0,Bk.none),(0,Bk.none)]).set h.length (1,Bk.data 1 (List.replicate N (D.int IntKind.u64 0)) true false)=pH h (List.replicate N 0):=by
  simp[pH,u6]
 try simp only[e3]
 try rw[e2]
 refine lo (Me ha hsa hb hsb hla hlb _ _ (Sl ..) hN da.length 0 (List.replicate N 0) aa af (fun x hx=>by grind[aU]) (by simp[rL,val]) (fun m _=>by
  grind[nth]) fun o ho hs hv=>?_)
 simp only[fc];have ht:gS (o.take N)=dig Z (val Z da*val Z db):=by rw[Z0 aa,<-hv,oS ah hs]
 have hu2:((pH h o).all fun x=>aT (pH h o).length x.2)=true:=by
  have hm:(h.all fun x=>aT (pH h o).length x.2)=true:=Nr af hu;rw[pH,Xz,<-pH,hm];rfl
 have tr:=tY hu2 (AQ h o) ho.symm (len:=N) (cap:=N) (Z7 _) aa (Z7 _);rw[ht]at tr;refine iG tr ?_ af;have hol:o=bv N (val Z da*val Z db):=by rw[<-hv,<-ho];exact zR o hs
 rw[<-hol];refine⟨by simp[pH],aa,.inr (.inr (.inl ⟨h.length,1,_,N,1,o.map u6,true,by grind,Z7 _,by simp[aH,pH],rfl⟩))⟩
def trimS(n:Nat):LnQ:=if n=0 then[]else[n]
theorem QU(n:Nat):gS [n]=trimS n:=by rfl
theorem Pk(n:Nat):val Z (trimS n)=n:=by grind[trimS,val]
theorem JA(h:n<Z):aw Z (trimS n):=by
 unfold trimS;split
 .exact fun x hx=>by cases hx
 .exact fun x hx=>by grind
theorem DT(hu:(h.all fun x=>aT h.length x.2)=true)(hf:f<Z)(hf0:0<f)(ha:RdP (h++[nnQ,nnQ]) t0 da)(hsa:aw Z da)(hla:da.length<100000000)(hN:N=da.length+1):
  CI Y F.cC [t0,U f] h (.new 1 ((bv N (val Z da*f)).map u6) true (dig Z (val Z da*f)).length N) h:=by
 refine uv ?_
 have hli:∀h:Hp,fj 1 [D.int .u64 0] [(0,U f)] h=some ([u6 f],h):=fun h=>by
  rfl
 have hu2:((h++[(0,Bk.none),nnQ]).all fun x=>aT (h++[(0,Bk.none),nnQ]).length x.2)=true:=by
  rw[Xz,Nr af hu];rfl
 simp[cC,hli];have t1:=UO hu2 (l:=[f]) af;rw[QU]at t1;refine iG (args:=[lst u6 [f]]) t1 ?_ (by simp[lst]) (by simp[lst]);have hfl:(trimS f).length=1:=by simp[trimS,show f≠0 by omega]
 have t2:=Ay hu2 ha hsa (Pb _ (trimS f)) (JA hf) hla aa (N:=N) aa;rw[Pk]at t2;simp;refine eU (e:=0) (b:=.none) t2 af ?_;refine⟨af,aa,.inr (.inr (.inl ⟨h.length+1,1,_,N,1,(bv N (val Z da*f)).map u6,true,by rfl,aa,by simp[aH],rfl⟩))⟩
def sP(h:Hp)(s e:Nat)(ex:Bool)(l:LnQ):Hp:=h.set s (e,.data 1 (l.map u6) ex false)
theorem sd{h:Hp}{s e:Nat}{ex:Bool}{l:LnQ}(hs:s<h.length):(sP h s e ex l)[s]?=some (e,.data 1 (l.map u6) ex false):=by simp[sP,hs]
theorem Ri{h:Hp}{s e:Nat}{ex:Bool}{l l':LnQ}:(sP h s e ex l).set s (e,.data 1 (l'.map u6) ex false)=sP h s e ex l':=by simp[sP]
@[simp]theorem aeM{h:Hp}{s e:Nat}{ex:Bool}{l:LnQ}:(sP h s e ex l).length=h.length:=by simp[sP]
theorem AL{h:Hp}{s e:Nat}{ex:Bool}{l:LnQ}(hu:(h.all fun x=>aT b x.2)=true):((sP h s e ex l).all fun x=>aT b x.2)=true:=by
 rw[Zq]at hu ⊢;intro x hx;rcases Y2 hx with h1|h1
 .grind
 .rw[h1];rfl
def RdS(P:Hp->Prop)(a:V)(l:LnQ):Prop:=aj a=some (I l.length)∧∀(t:Hp)(i:Nat),P t->i<l.length->∃p,ixV t 1 a (I i)=some p∧ld1 t p=some (U (nth 0 l i:Nat))
def jz(g at_:Nat)(db:LnQ):Nat->Nat->Nat->Nat->LnQ->Nat×LnQ
 |0,_,_,w,l=>(w,l)
 | r+1,k,c,w,l=>
  if nth 0 l (at_+k)<(c+g*nth 0 db k)%Z+w then jz g at_ db r (k+1) ((c+g*nth 0 db k)/Z) 1 (l.set (at_+k) (nth 0 l (at_+k)+Z-((c+g*nth 0 db k)%Z+w)))
  else jz g at_ db r (k+1) ((c+g*nth 0 db k)/Z) 0 (l.set (at_+k) (nth 0 l (at_+k)-((c+g*nth 0 db k)%Z+w)))
variable{h:Hp}{s e tot at_ g:Nat}{ex:Bool}{t1:V}{db:LnQ}
theorem Pq(hs:s<h.length)(hb:RdS (fun t=>∃l,t=sP h s e ex l) t1 db)(hsb:aw Z db)(hg:g<Z)(hat:at_+db.length<tot)(ht:tot<1000000000000){len:Nat}(hlen:tot=len)(k:KL)(h0:Hp)(hh:h0.length=h.length):
  ∀(r j c w:Nat)(l:LnQ),j+r=db.length+1->c<Z->w<=1->l.length=tot->aw Z l ->
  k (.exit 0) [I ((jz g at_ db r j c w l).1:Nat)] (sP h s e ex (jz g at_ db r j c w l).2) ->
  lp (gG (CX Y) h.length (.ref s e 0 len cap tot) t1 (U g) (I at_)) [] h0 [U c,I w,I j] (sP h s e ex l) k:=by
 intro r
 induction r with
 | zero=>
  intro j c w l hj hc hw hl hsl hk;refine ai ?_;have g1:¬j<=db.length:=aa;have hl1:=hb.1;simp[gG,hl1,g1];exact hk
 | succ r ih=>
  intro j c w l hj hc hw hl hsl hk;have hjl:j<=db.length:=aa;obtain⟨m,hm⟩:=nmQ (at_+j);have hml:m<l.length:=aa;obtain⟨y,hy⟩:=mnQ (nth 0 db j);have hys:y<Z:=by rw[<-hy];exact hsb.getD aU j
  obtain⟨x,hx⟩:=mnQ (nth 0 l m);have hxs:x<Z:=by rw[<-hx];exact hsl.getD aU m
  obtain⟨p,hp⟩:=nmQ (g*y);have hxy:p<=999999999*999999999:=by rw[hp];exact Zg (by grind[Z]) (by grind[Z])
  have hpi:(g:Int)*(y:Int)=(p:Int):=by rw[hp];simp
  have e1:((at_:Int)+(j:Int))=(m:Int):=aa;have hZ:Z=1000000000:=rfl;have hl1:=hb.1;have r3:=Co (sd (e:=e) (ex:=ex) (l:=l) hs) hl.symm (len:=len) (cap:=cap) (i:=(m:Int)) aa aa .i64;have r4:=Iz (sd (e:=e) (ex:=ex) (l:=l) hs) hl.symm hml;have r5:=Pv (sd (e:=e) (ex:=ex) (l:=l) hs) hl.symm hml;simp only[Ri]at r5;rw[hx]at r4;rw[Int.toNat_natCast]at r3
  rw[jz,hy,<-hp,<-hm,hx]at hk;have hsm:(∀v,v<Z->aw Z (l.set m v)):=fun v hv=>hsl.set hv
  obtain⟨t,ht1⟩:=mnQ (c+p);rw[ht1]at hk;obtain⟨tm,htm⟩:=mnQ (t%Z);obtain⟨td,htd⟩:=mnQ (t/Z);rw[htm,htd]at hk;have ht2:t<1000000000000000000:=by simp only[hZ]at *;omega
  have htdZ:td<Z:=by simp only[hZ]at *;omega
  have htmZ:tm<Z:=by simp only[hZ]at *;omega
  have e3:((t:Int)%1000000000)=(tm:Int):=by simp only[hZ]at htm;omega
  have e4:((t:Int)/1000000000)=(td:Int):=by simp only[hZ]at htd;omega
  have main:∀(v:Nat)(w':Nat),v<Z->w'<=1->k (.exit 0) [I ((jz g at_ db r (j+1) td w' (l.set m v)).1:Nat)] (sP h s e ex (jz g at_ db r (j+1) td w' (l.set m v)).2) ->
    lp (gG (CX Y) h.length (.ref s e 0 len cap tot) t1 (U g) (I at_)) [] h0 [U td,I w',I (j+1:Nat)] (sP h s e ex (l.set m v)) k:=fun v w' hv hw' hk'=>
   ih (j+1) td w' (l.set m v) aa htdZ hw' (by grind) (hsm v hv) hk'
  clear ih;have e2:(c:Int)+(p:Int)=(t:Int):=aa;refine ai ?_;simp[gG,hl1,hjl];refine dy (l:=[U t]) (h:=sP h s e ex l) (fun q=>?_) ?_
  .by_cases g2:j<db.length
   .obtain⟨pb,q1,q2⟩:=hb.2 (sP h s e ex l) j ⟨l,rfl⟩ g2;rw[hy]at q2;simp(disch:=try exact ac)[g2,q1,q2,hpi,e2]
   .have hy0:nth 0 db j=0:=by simp[nth,List.getElem?_eq_none (show db.length<=j by omega)]
    rw[hy]at hy0;subst hy0;simp only[Nat.mul_zero]at hp;subst hp;obtain rfl:c=t:=aa;simp[g2]
  .simp(disch:=try exact ac)[e1,r3,r4,Z4,Z1,e3,e4];by_cases hxt:x<tm+w
   .rw[if_pos hxt]at hk;obtain⟨v,hv⟩:=mnQ (x+Z-(tm+w));rw[hv]at hk;have hvZ:v<Z:=aa;have e5:(x:Int)-tm-w<0:=aa;have e6:(x:Int)-tm-w+1000000000=v:=by simp only[hZ]at hv;omega
    have r6:=r5 v;refine dy (l:=[I v,I (1:Nat)]) (h:=sP h s e ex l) (fun q=>?_) ?_
    .simp(disch:=try exact ac)[e5,e6]
    .simp(disch:=try exact ac)[e1,r3,r6];simpa using main v 1 hvZ (Z7 _) hk
   .rw[if_neg hxt]at hk;obtain⟨v,hv⟩:=mnQ (x-(tm+w));rw[hv]at hk;have hvZ:v<Z:=aa;have e5:¬((x:Int)-tm-w<0):=aa;have e6:(x:Int)-tm-w=v:=aa;have r6:=r5 v;refine dy (l:=[I v,I (0:Nat)]) (h:=sP h s e ex l) (fun q=>?_) ?_
    .rw[e6]at e5 ⊢;simp[e5]
    .simp(disch:=try exact ac)[e1,r3,r6];simpa using main v 0 hvZ (Yk _) hk
theorem JG(hu:(h.all fun x=>aT h.length x.2)=true)(hs:s<h.length)(hb:RdS (fun t=>∃l,t=sP h s e ex l) t1 db)(hsb:aw Z db)(hg:g<Z)(hat:at_+db.length<tot)(ht:tot<1000000000000){l:LnQ}(hl:l.length=tot)(hsl:aw Z l):
  CI Y F.dN [.ref s e 0 tot tot tot,t1,U g,I at_] (sP h s e ex l) (B (decide (0<(jz g at_ db (db.length+1) 0 0 0 l).1))) (sP h s e ex (jz g at_ db (db.length+1) 0 0 0 l).2):=by refine vY ?_;simp[dN];refine lo (Pq hs hb hsb hg hat ht rfl _ _ af (db.length+1) 0 0 0 l aa aU (Yk _) hl hsl ?_);simp;refine⟨(Z0 af).symm,?_,.inl ⟨rfl,rfl⟩⟩;exact AL hu
def rq(at_:Nat)(db:LnQ):Nat->Nat->Nat->LnQ->LnQ
 |0,_,_,l=>l
 |r+1,k,c,l=>rq at_ db r (k+1) ((c+nth 0 l (at_+k)+nth 0 db k)/Z) (l.set (at_+k) ((c+nth 0 l (at_+k)+nth 0 db k)%Z))
theorem QG(hs:s<h.length)(hb:RdS (fun t=>∃l,t=sP h s e ex l) t1 db)(hsb:aw Z db)(hat:at_+db.length<tot)(ht:tot<1000000000000){len:Nat}(hlen:tot=len)(k:KL)(h0:Hp)(hh:h0.length=h.length):
  ∀(r j c:Nat)(l:LnQ),j+r=db.length+1->c<Z->l.length=tot->aw Z l ->
  k (.exit 0) [] (sP h s e ex (rq at_ db r j c l)) ->
  lp (jr (CX Y) h.length (.ref s e 0 len cap tot) t1 (I at_)) [] h0 [U c,I j] (sP h s e ex l) k:=by
 intro r
 induction r with
 | zero=>
  intro j c l hj hc hl hsl hk;refine ai ?_;have g1:¬j<=db.length:=aa;have hl1:=hb.1;simp[jr,hl1,g1];exact hk
 | succ r ih=>
  intro j c l hj hc hl hsl hk;have hjl:j<=db.length:=aa;obtain⟨m,hm⟩:=nmQ (at_+j);have hml:m<l.length:=aa;obtain⟨y,hy⟩:=mnQ (nth 0 db j);have hys:y<Z:=by rw[<-hy];exact hsb.getD aU j
  obtain⟨x,hx⟩:=mnQ (nth 0 l m);have hxs:x<Z:=by rw[<-hx];exact hsl.getD aU m
  have e1:((at_:Int)+(j:Int))=(m:Int):=aa;have hZ:Z=1000000000:=rfl;have hl1:=hb.1;have r3:=Co (sd (e:=e) (ex:=ex) (l:=l) hs) hl.symm (len:=len) (cap:=cap) (i:=(m:Int)) aa aa .i64;have r4:=Iz (sd (e:=e) (ex:=ex) (l:=l) hs) hl.symm hml;have r5:=Pv (sd (e:=e) (ex:=ex) (l:=l) hs) hl.symm hml;simp only[Ri]at r5;rw[hx]at r4;rw[Int.toNat_natCast]at r3
  rw[rq,hy,<-hm,hx]at hk;obtain⟨t,ht1⟩:=mnQ (c+x+y);rw[ht1]at hk;obtain⟨tm,htm⟩:=mnQ (t%Z);obtain⟨td,htd⟩:=mnQ (t/Z);rw[htm,htd]at hk;have ht2:t<3000000000:=by simp only[hZ]at *;omega
  have htdZ:td<Z:=by simp only[hZ]at *;omega
  have htmZ:tm<Z:=by simp only[hZ]at *;omega
  have e3:((t:Int)%1000000000)=(tm:Int):=by simp only[hZ]at htm;omega
  have e4:((t:Int)/1000000000)=(td:Int):=by simp only[hZ]at htd;omega
  have ih2:=ih (j+1) td (l.set m tm) aa htdZ (by grind) (hsl.set htmZ) hk;have r6:=r5 tm;clear ih;refine ai ?_;simp(disch:=try exact ac)[jr,hl1,hjl,e1,r3,r4];refine dy (l:=[U t]) (h:=sP h s e ex l) (fun q=>?_) ?_
  .by_cases g2:j<db.length
   .obtain⟨pb,q1,q2⟩:=hb.2 (sP h s e ex l) j ⟨l,rfl⟩ g2;rw[hy]at q2;have e2:(c:Int)+(x:Int)+(y:Int)=(t:Int):=aa;simp(disch:=try exact ac)[g2,q1,q2,e2]
   .have hy0:nth 0 db j=0:=by simp[nth,List.getElem?_eq_none (show db.length<=j by omega)]
    rw[hy]at hy0;subst hy0;have e2:(c:Int)+(x:Int)=(t:Int):=aa;simp[g2,e2]
  .simp(disch:=try exact ac)[e1,r3,r4,Z4,Z1,e3,e4,r6];trivial
theorem LR(hu:(h.all fun x=>aT h.length x.2)=true)(hs:s<h.length)(hb:RdS (fun t=>∃l,t=sP h s e ex l) t1 db)(hsb:aw Z db)(hat:at_+db.length<tot)(ht:tot<1000000000000){l:LnQ}(hl:l.length=tot)(hsl:aw Z l):
  CI Y F.cT [.ref s e 0 tot tot tot,t1,I at_] (sP h s e ex l) (.tup []) (sP h s e ex (rq at_ db (db.length+1) 0 0 l)):=by refine we ?_;simp[cT];refine lo (QG hs hb hsb hat ht rfl _ _ af (db.length+1) 0 0 l aa aU hl hsl ?_);simp;refine⟨(Z0 af).symm,?_,.inl ⟨rfl,rfl⟩⟩;exact AL hu
end Go.Vm
namespace Go.Big
section
variable{B:Nat}
theorem mK(l:LnQ)(i:Nat)(h:i<=l.length):val B l=val B (l.take i)+B^i*val B (l.drop i):=by have:=val_append (B:=B) (l.take i) (l.drop i);rw[Ys,Zm,Yy h]at this;exact this
theorem UM(l:LnQ)(z:Nat):val B (l++List.replicate z 0)=val B l:=by rw[val_append,rL];simp
theorem JC(hB:0<B){l:LnQ}{n:Nat}(h:val B l<B^n):val B (l.drop n)=0:=by
 rcases Zf n l.length with h1|h1
 .have:=mK (B:=B) l n aa;rcases Zl (val B (l.drop n))with h2|h2
  .exact h2
  .have:=Zy (B^n) h2;omega
 .rw[Zv h1];rfl
variable{L lD lB x0 x1 x2 y0 y1 D v g r hi:Nat}
structure Gs(B L lD lB x0 x1 x2 y0 y1 D v hi:Nat):Prop where
 B0:0<B
 D_eq:D=lD+L*(x0+B*hi)
 v_eq:v=lB+L*(y0+B*y1)
 lDL:lD<L
 lBL:lB<L
 hx0:x0<B
 hy0:y0<B
 hy1:0<y1
 hD:D<B*v
theorem Gs.vpos(G:Gs B L lD lB x0 x1 x2 y0 y1 D v hi):L*B<=v:=by
 rw[G.v_eq]
 have h1:L*B<=L*(y0+B*y1):=Zy L (by
  have:=Zy B G.hy1;omega)
 omega
theorem Gs.pos(G:Gs B L lD lB x0 x1 x2 y0 y1 D v hi):0<v:=by have:=G.vpos;have h1:=G.lDL;have h2:0<L*B:=Y4 aa G.B0;omega
theorem Gs.first(G:Gs B L lD lB x0 x1 x2 y0 y1 D v hi):D/v<=hi/y1:=by
 have hvp:=G.pos;rw[Wu G.hy1];have h1:D/v*v<=D:=X0 D v;generalize D/v=q at *
 have h2:q*(L*(B*y1))<=q*v:=Zy q (by
  rw[G.v_eq];have:=Zy L (Nat.le_add_left (B*y1) y0);omega)
 have h3:D<L*B*(hi+1):=by
  rw[G.D_eq];have:=G.lDL;have h4:=Zy L (show x0+1+B*hi<=B*(hi+1) by rw[Nat.mul_add];have:=G.hx0;omega);rw[<-Nat.mul_assoc]at h4
  have h5:L*(x0+1+B*hi)=L+L*(x0+B*hi):=by
   rw[show x0+1+B*hi=1+(x0+B*hi) by omega,Nat.mul_add];simp
  omega
 have h6:q*(L*(B*y1))=L*B*(q*y1):=by
  rw[<-Nat.mul_assoc L B y1,Yt]
 have h7:L*B*(q*y1)<L*B*(hi+1):=aa;have:=Xg h7;omega
theorem Gs.far(G:Gs B L lD lB x0 x1 x2 y0 y1 D v hi)(h:B<=g):D/v<g:=by have:=(Wt G.pos).2 G.hD;omega
theorem Gs.over(G:Gs B L lD lB x0 x1 x2 y0 y1 D v hi)(he:g*y1+r=hi)(h:r*B+x0<g*y0):D/v<g:=by
 rw[Wt G.pos]
 have h1:L*(x0+1+B*hi)<=g*v:=by
  rw[G.v_eq];have h2:g*(L*(y0+B*y1))<=g*(lB+L*(y0+B*y1)):=Zy g aa
  have h3:g*(L*(y0+B*y1))=L*(g*y0+B*(g*y1)):=by
   rw[Yt g L,Nat.mul_add,Yt g B]
  have h4:L*(x0+1+B*hi)<=L*(g*y0+B*(g*y1)):=Zy L (by
   rw[<-he,Nat.mul_add,Zw B r];omega)
  omega
 have h5:L*(x0+1+B*hi)=L+L*(x0+B*hi):=by
  rw[show x0+1+B*hi=1+(x0+B*hi) by omega,Nat.mul_add];simp
 have:=G.lDL;rw[G.D_eq];omega
theorem Gs.near(G:Gs B L lD lB x0 x1 x2 y0 y1 D v hi)(he:g*y1+r=hi)(hg:g<B)(h:¬(r<B∧r*B+x0<g*y0)):g*v<D+v:=by
 have h0:g*(y0+B*y1)<=x0+B*hi:=by
  rw[Nat.mul_add,Yt g B,<-he,Nat.mul_add];by_cases hr:r<B
  .have:¬r*B+x0<g*y0:=fun h'=>h ⟨hr,h'⟩
   rw[Zw r B]at this;omega
  .have h1:g*y0<=B*B:=Zg aa (by have:=G.hy0;omega);have h2:=Zy B (show B<=r by omega);omega
 have h1:=Zy L h0
 have h2:g*lB<L*B:=by
  have:=Zg (show g<=B-1 by omega) (show lB<=L by have:=G.lBL;omega);have hL:0<L:=by have:=G.lBL;omega
  have h3:(B-1)*L+L=L*B:=by
   have:=G.B0;obtain⟨b,rfl⟩:∃b,B=b+1:=⟨B-1,aa⟩;rw[W5,Zw L,X3]
  omega
 have h3:g*v=g*lB+L*(g*(y0+B*y1)):=by
  rw[G.v_eq,Nat.mul_add,Yt g L]
 have h4:=G.vpos;have h5:=G.D_eq;omega
theorem Gs.le(G:Gs B L lD lB x0 x1 x2 y0 y1 D v hi)(h:g*v<D+v):g<=D/v+1:=by
 have h1:=Zb D v;have h2:=Zk D G.pos;rcases Zf (D/v+1) g with h3|h3
 .have h4:=Zx v (show D/v+2<=g by omega);rw[Nat.add_mul,Zw (D/v) v]at h4;omega
 .exact h3
end
end Go.Big
namespace Go.Vm
open Go Go.Am Go.Big
variable{h1 h2:Hp}{a b j n2 w k cap N d:Nat}{va vb:V}{ol' al':LnQ}{z:Int}
theorem vd{l:LnQ}{m n v:Nat}(h:m≠n):nth 0 (l.set m v) n=nth 0 l n:=by simp[nth,List.getElem?_set_ne h]
structure Frm(l l':LnQ)(a b:Nat):Prop where
 len:l'.length=l.length
 same:∀m,m<a∨b<=m->nth 0 l' m=nth 0 l m
theorem Dy{g at_:Nat}(hg:g<Z){db:LnQ}(hsb:aw Z db):∀(r j c w:Nat)(l:LnQ),at_+j+r<=l.length->c<Z->w<=1->aw Z l->c+g*val Z (db.drop j)<Z^r ->
  Frm l (jz g at_ db r j c w l).2 (at_+j) (at_+j+r)∧aw Z (jz g at_ db r j c w l).2∧(jz g at_ db r j c w l).1<=1 ∧
  val Z (jz g at_ db r j c w l).2+Z^(at_+j)*(c+g*val Z (db.drop j)+w)=val Z l+Z^(at_+j+r)*(jz g at_ db r j c w l).1
 | 0,j,c,w,l,hl,hc,hw,hs,hT=>by
  have h0:c+g*val Z (db.drop j)=0:=by simp at hT;omega
  refine⟨⟨rfl,fun _ _=>rfl⟩,hs,hw,?_⟩;rw[h0,Zn];rfl
 | r+1,j,c,w,l,hl,hc,hw,hs,hT=>by
  obtain⟨m,hm⟩:=nmQ (at_+j);have hml:m<l.length:=aa;obtain⟨x,hx⟩:=mnQ (nth 0 l m);have hxs:x<Z:=by rw[<-hx];exact hs.getD aU m
  obtain⟨y,hy⟩:=mnQ (nth 0 db j);rw[jz,hy,<-hm,hx];have hvd:val Z (db.drop j)=y+Z*val Z (db.drop (j+1)):=by rw[eV,show db.getD j 0=y from hy]
  obtain⟨V,hV⟩:=mnQ (val Z (db.drop (j+1)));rw[hvd,hV]at hT ⊢;obtain⟨t,ht⟩:=mnQ (c+g*y);rw[ht];obtain⟨tm,htm⟩:=mnQ (t%Z);obtain⟨td,htd⟩:=mnQ (t/Z);have hdm:t=tm+Z*td:=by rw[<-htm,<-htd];exact(Yi t Z).symm
  have htmZ:tm<Z:=by rw[<-htm];exact Zk _ aU
  rw[htm,htd]
  have hsum:c+g*(y+Z*V)=tm+Z*(td+g*V):=by
   rw[Nat.mul_add,Yt g Z,Nat.mul_add];omega
  rw[hsum]at hT ⊢
  have hT2:td+g*V<Z^r:=by
   rw[Nat.pow_succ,Zw (Z^r)]at hT;have:Z*(td+g*V)<Z*Z^r:=aa;exact Xg this
  have htdZ:td<Z∨True:=.inr trivial
  have step:∀(v w':Nat),v<Z->w'<=1->v+(tm+w)=x+Z*w'->td<Z ->
    Frm l (jz g at_ db r (j+1) td w' (l.set m v)).2 (at_+j) (at_+j+(r+1))∧aw Z (jz g at_ db r (j+1) td w' (l.set m v)).2∧(jz g at_ db r (j+1) td w' (l.set m v)).1<=1 ∧
    val Z (jz g at_ db r (j+1) td w' (l.set m v)).2+Z^m*(tm+Z*(td+g*V)+w)=val Z l+Z^(m+(r+1))*(jz g at_ db r (j+1) td w' (l.set m v)).1:=by
   intro v w' hv hw' he htd2;obtain⟨⟨f1,f2⟩,i2,i3,i4⟩:=Dy hg hsb (g:=g) (at_:=at_) r (j+1) td w' (l.set m v) ak htd2 hw' (hs.set hv) (by rw[hV];exact hT2);refine⟨⟨by rw[f1];simp,fun n hn=>?_⟩,i2,i3,?_⟩
   .rw[f2 n aa,vd aa]
   .have hvs:=xj (B:=Z) l m v hml;rw[show l.getD m 0=x from hx]at hvs;rw[hV,show at_+(j+1)=m+1 by omega]at i4;rw[show m+(r+1)=m+1+r by omega];generalize val Z (jz g at_ db r (j+1) td w' (l.set m v)).2=R at *;generalize(jz g at_ db r (j+1) td w' (l.set m v)).1=W at *;generalize val Z (l.set m v)=R1 at *;generalize val Z l=R0 at *;generalize td+g*V=T at *
    rw[Nat.pow_succ Z m,Nat.mul_assoc (Z^m) Z (T+w')]at i4;generalize Z^m=P at *;have h1:P*v+P*(tm+w)=P*x+P*(Z*w'):=by rw[<-Nat.mul_add,<-Nat.mul_add,he]
    have h2:P*(Z*(T+w'))=P*(Z*T)+P*(Z*w'):=by rw[Nat.mul_add Z,Nat.mul_add]
    have h3:P*(tm+Z*T+w)=P*(tm+w)+P*(Z*T):=by rw[<-Nat.mul_add];congr 1;omega
    omega
  have htd2:td<Z:=by
   have hy2:y<Z:=by rw[<-hy];exact hsb.getD aU j
   have:=Zg (show g<=999999999 by simp only[Z]at hg;omega) (show y<=999999999 by simp only[Z]at hy2;omega);simp only[Z]at *;omega
  rw[<-hm]at step;by_cases hlt:x<tm+w
  .simp only[if_pos hlt];exact step _ 1 aa (Z7 _) aa htd2
  .simp only[if_neg hlt];exact step _ 0 aa (Yk _) aa htd2
theorem Fx{at_:Nat}{db:LnQ}(hsb:aw Z db):∀(r j c:Nat)(l:LnQ),at_+j+r<=l.length->c<=1->aw Z l ->
  Frm l (rq at_ db r j c l) (at_+j) (at_+j+r)∧aw Z (rq at_ db r j c l) ∧
  ∃ce,val Z (rq at_ db r j c l)+Z^(at_+j+r)*(ce+val Z (db.drop (j+r)))=val Z l+Z^(at_+j)*(c+val Z (db.drop j))
 |0,j,c,l,hl,hc,hs=>⟨⟨rfl,fun _ _=>rfl⟩,hs,c,rfl⟩
 | r+1,j,c,l,hl,hc,hs=>by
  obtain⟨m,hm⟩:=nmQ (at_+j);have hml:m<l.length:=aa;obtain⟨x,hx⟩:=mnQ (nth 0 l m);have hxs:x<Z:=by rw[<-hx];exact hs.getD aU m
  obtain⟨y,hy⟩:=mnQ (nth 0 db j);have hys:y<Z:=by rw[<-hy];exact hsb.getD aU j
  rw[rq,hy,<-hm,hx];have hvd:val Z (db.drop j)=y+Z*val Z (db.drop (j+1)):=by rw[eV,show db.getD j 0=y from hy]
  obtain⟨t,ht⟩:=mnQ (c+x+y);rw[ht];obtain⟨tm,htm⟩:=mnQ (t%Z);obtain⟨td,htd⟩:=mnQ (t/Z);have hdm:t=tm+Z*td:=by rw[<-htm,<-htd];exact(Yi t Z).symm
  have htmZ:tm<Z:=by rw[<-htm];exact Zk _ aU
  have htd1:td<=1:=by simp only[Z]at *;omega
  rw[htm,htd];obtain⟨⟨f1,f2⟩,i2,ce,i4⟩:=Fx hsb (at_:=at_) r (j+1) td (l.set m tm) ak htd1 (hs.set htmZ);refine⟨⟨by rw[f1];simp,fun n hn=>?_⟩,i2,ce,?_⟩
  .rw[f2 n aa,vd aa]
  .have hvs:=xj (B:=Z) l m tm hml;rw[show l.getD m 0=x from hx]at hvs;rw[show at_+(j+1)=m+1 by omega,show j+1+r=j+(r+1) by omega]at i4;rw[show m+(r+1)=m+1+r by omega,hvd];generalize val Z (rq at_ db r (j+1) td (l.set m tm))=R at *;generalize val Z (l.set m tm)=R1 at *;generalize val Z l=R0 at *;generalize val Z (db.drop (j+1))=V at *
   rw[Nat.pow_succ Z m,Nat.mul_assoc (Z^m) Z (td+V)]at i4;generalize Z^(m+1+r)*(ce+val Z (db.drop (j+(r+1))))=Q at *;generalize Z^m=P at *;have h1:P*tm+P*(Z*td)=P*x+P*(c+y):=by rw[<-Nat.mul_add,<-Nat.mul_add,<-hdm,<-ht];congr 1;omega
   have h2:P*(Z*(td+V))=P*(Z*td)+P*(Z*V):=by rw[Nat.mul_add Z,Nat.mul_add]
   have h3:P*(c+(y+Z*V))=P*(c+y)+P*(Z*V):=by rw[<-Nat.mul_add];congr 1;omega
   omega
theorem Frm.take{l l':LnQ}{a b:Nat}(h:Frm l l' a b):l'.take a=l.take a:=by
 refine List.ext_getElem (by simp[h.len]) fun i h1 h2=>?_
 simp only[Zm]at h1 h2;have:=h.same i (.inl aa);rw[gj _ _ _ aa,gj _ _ _ aa]at this;simpa using this
theorem Frm.drop{l l':LnQ}{a b:Nat}(h:Frm l l' a b):l'.drop b=l.drop b:=by
 refine List.ext_getElem (by simp[h.len]) fun i h1 h2=>?_
 simp only[Yz]at h1 h2;have:=h.same (b+i) (.inr aa);rw[gj _ _ _ aa,gj _ _ _ aa]at this;simpa using this
theorem Qs{al db:LnQ}{i g:Nat}(hsa:aw Z al)(hsb:aw Z db)(hi:i+db.length<al.length)(hg:g<Z)(hD:val Z (al.drop i)<Z*val Z db)(h1:g*val Z db<val Z (al.drop i)+val Z db)(h2:val Z (al.drop i)/val Z db<=g)
  {w:Nat} {l1 l2:LnQ} (hw:(jz g i db (db.length+1) 0 0 0 al).1=w) (hl1:(jz g i db (db.length+1) 0 0 0 al).2=l1) (hl2:rq i db (db.length+1) 0 0 l1=l2) :
  (l1.length=al.length∧aw Z l1) ∧
  (w=0->aw Z l1∧l1.length=al.length∧l1.take i=al.take i∧g=val Z (al.drop i)/val Z db∧val Z (l1.drop i)=val Z (al.drop i)%val Z db) ∧
  (0<w->aw Z l2∧l2.length=al.length∧l2.take i=al.take i∧0<g∧g-1=val Z (al.drop i)/val Z db∧val Z (l2.drop i)=val Z (al.drop i)%val Z db):=by
 have hvb:=gr (B:=Z) aU hsb
 have hvp:0<val Z db:=by
  rcases Zl (val Z db)with h|h
  .rw[h]at hD;simp at hD
  .exact h
 have hpow:Z^(db.length+1)=Z*Z^db.length:=by rw[Nat.pow_succ,Zw]
 have hDlt:val Z (al.drop i)<Z^(db.length+1):=by
  rw[hpow];exact W4 hD (Xk hvb aU)
 have htop:val Z (al.drop (i+(db.length+1)))=0:=by
  rw[<-List.drop_drop];exact JC aU hDlt
 obtain ⟨f,s1,w1,e⟩:=Dy hg hsb (db.length+1) 0 0 0 al aa aU (Yk _) hsa (by
  rw[Yp,Zn,hpow];have a1:=Zy g (show val Z db<=Z^db.length by omega);have a2:=Xp hg (show 0<Z^db.length from Yq aU);omega) (at_:=i) (g:=g)
 rw[hw,hl1]at e;rw[hl1]at f s1;rw[hw]at w1;simp only[Nat.add_zero,Yp,Zn]at e f;have len1:=f.len
 have below:∀{l:LnQ},aw Z l->l.drop (i+(db.length+1))=al.drop (i+(db.length+1))->val Z (l.drop i)<Z^(db.length+1):=fun{l} hs he=>by
  have hz:=mK (B:=Z) (l.drop i) (min (db.length+1) (l.drop i).length) (Nat.min_le_right ..);by_cases hc:db.length+1<=(l.drop i).length
  .rw[Yy hc,List.drop_drop,he,htop,Nat.mul_zero,Nat.add_zero]at hz;rw[hz];have:=gr (B:=Z) aU ((hs.drop i).take (db.length+1));rw[Zm,Yy hc]at this;exact this
  .have:=gr (B:=Z) aU (hs.drop i);exact Z3 this (Z6 aU aa)
 have hsp:∀{l:LnQ},l.length=al.length->l.take i=al.take i->val Z l=val Z (al.take i)+Z^i*val Z (l.drop i):=fun{l} h h'=>by
  rw[<-h'];exact mK l i aa
 have hal:=mK (B:=Z) al i aa;have hdm:=Zb (val Z (al.drop i)) (val Z db);have hml:=Zk (val Z (al.drop i)) hvp;have b1:=below s1 f.drop;rw[hsp len1 f.take,hal,Zr,Nat.mul_assoc (Z^i)]at e
 have e2:val Z (l1.drop i)+g*val Z db=val Z (al.drop i)+Z^(db.length+1)*w:=by
  have:Z^i*(val Z (l1.drop i)+g*val Z db)=Z^i*(val Z (al.drop i)+Z^(db.length+1)*w):=by rw[Nat.mul_add,Nat.mul_add];omega
  exact Xw (Yq aU) this
 obtain⟨D,hDe⟩:=mnQ (val Z (al.drop i));obtain⟨v,hve⟩:=mnQ (val Z db);refine⟨⟨len1,s1⟩,fun w0=>?_,fun wp=>?_⟩
 .subst w0;rw[Nat.mul_zero,Nat.add_zero]at e2
  have hq:g=val Z (al.drop i)/val Z db:=by
   refine Nat.le_antisymm ?_ h2;rw[Wu hvp];omega
  refine⟨s1,len1,f.take,hq,?_⟩;rw[<-hq]at hdm;rw[Zw]at hdm;omega
 .have hw1:w=1:=aa;subst hw1;obtain⟨f2,s2,ce,e3⟩:=Fx hsb (at_:=i) (db.length+1) 0 0 l1 aa (Yk _) s1;rw[hl2]at f2 s2 e3;simp only[Nat.add_zero,Yp,Zn]at e3 f2;have hdn:db.drop (db.length+1)=[]:=Zv aa;rw[hdn,show val Z []=0 from rfl]at e3;simp only[Nat.add_zero]at e3
  have len2:l2.length=al.length:=by rw[f2.len,len1]
  have tk2:l2.take i=al.take i:=by rw[f2.take,f.take]
  have b2:=below s2 (by rw[f2.drop,f.drop]);rw[hsp len2 tk2,hsp len1 f.take,Zr,Nat.mul_assoc (Z^i)]at e3
  have e4:val Z (l2.drop i)+Z^(db.length+1)*ce=val Z (l1.drop i)+val Z db:=by
   have:Z^i*(val Z (l2.drop i)+Z^(db.length+1)*ce)=Z^i*(val Z (l1.drop i)+val Z db):=by rw[Nat.mul_add,Nat.mul_add];omega
   exact Xw (Yq aU) this
  have hgl:g*val Z db<=(val Z (al.drop i)/val Z db+1)*val Z db:=by
   rcases Zf (val Z (al.drop i)/val Z db+1) g with h3|h3
   .exfalso;have h4:=Zx (val Z db) (show val Z (al.drop i)/val Z db+2<=g by omega);rw[Nat.add_mul,Zw (val Z (al.drop i)/val Z db)]at h4;omega
   .exact Zx _ h3
  have hgp:0<g:=by
   rcases Zl g with h|h
   .subst h;omega
   .exact h
  have hgq:g=val Z (al.drop i)/val Z db+1:=by
   refine Nat.le_antisymm ?_ ?_
   .exact Nat.le_of_mul_le_mul_right hgl hvp
   .rw[Nat.succ_le_iff,Wt hvp];omega
  refine⟨s2,len2,tk2,hgp,aa,?_⟩;rw[hgq,Nat.add_mul,Ye,Zw (val Z (al.drop i)/val Z db)]at e2;generalize Z^(db.length+1)=P at *
  have hce:ce=1:=by
   rcases Zf ce 1 with h|h
   .have:ce=0:=aa;subst this;omega
   .rcases Zf ce 2 with h'|h'
    .omega
    .have:=Zy P h';omega
  subst hce;omega
def H6(o:LnQ):Hp:=[(1,.data 1 (o.map u6) true false),nnQ]
theorem zp(o:LnQ):(H6 o)[0]?=some (1,.data 1 (o.map u6) true false):=rfl
theorem Sp(o o':LnQ):(H6 o).set 0 (1,.data 1 (o'.map u6) true false)=H6 o':=rfl
@[simp]theorem acF(o:LnQ):(H6 o).length=2:=rfl
theorem BQ{p:LnQ}(hsp:aw Z p)(hpl:p.length<1000000000000){n N:Nat}(hn:0<n)(hnZ:n<=Z)(hN:N=p.length)(k:KL)(h0:Hp)(hh:h0.length=2) :
  ∀(i:Nat)(o:LnQ)(r:Nat),i<=p.length->o.length=N->aw Z o->r<n->val Z (p.drop i)=n*val Z (o.drop i)+r ->
  (∀o' r',o'.length=N->aw Z o'->r'<n->val Z p=n*val Z o'+r'->k (.exit 0) [U (r':Nat)] (H6 o')) ->
  lp (iT (CX Y) (lst u6 p) (U n) (.ref 0 1 0 N N N)) [] h0 [U r,I ((i:Int)-1)] (H6 o) k
 | 0,o,r,hi,ho,hso,hr,hv,hk=>by
  refine ai ?_;simp[iT];exact hk o r ho hso hr (by simpa using hv)
 | i+1,o,r,hi,ho,hso,hr,hv,hk=>by
  obtain⟨x,hx⟩:=mnQ (nth 0 p i);have hxs:x<Z:=by rw[<-hx];exact hsp.getD aU i
  have e1:=fun h:Hp=>qt u6 p h (k:=.i64) (i:=(i:Int)) aa aa
  have e2:=fun h:Hp=>Er p h (j:=i) aa
  rw[hx]at e2;have r3:=Co (zp o) ho.symm (len:=N) (cap:=N) (i:=(i:Int)) aa aa .i64;have r5:=Pv (zp o) ho.symm (j:=i) aa;simp only[Sp]at r5;simp only[Int.toNat_natCast]at e1 r3;have e0:((i+1:Nat):Int)-1=(i:Int):=aa;have hZ:Z=1000000000:=rfl;obtain⟨t,ht⟩:=mnQ (r*Z+x);obtain⟨q,hq⟩:=mnQ (t/n)
  obtain⟨r2,hr2⟩:=mnQ (t%n);have hdm:n*q+r2=t:=by rw[<-hq,<-hr2];exact Zb t n
  have hr2n:r2<n:=by rw[<-hr2];exact Zk _ hn
  have htn:t<Z*n:=by
   have:=Zx Z (show r+1<=n by omega);rw[Nat.add_mul,Zw n Z]at this;omega
  have hqZ:q<Z:=by rw[<-hq];exact Y8 (by rw[Zw];exact htn)
  have htb:t<1000000000000000001:=by
   have:=Zy Z hnZ;simp only[hZ]at *;omega
  have hdr:(o.set i q).drop i=q::o.drop (i+1):=by
   rw[List.drop_set,if_neg aa,Nat.sub_self];rw[Yr (show i<o.length by omega)];rfl
  have ih:=BQ hsp hpl hn hnZ hN k h0 hh i (o.set i q) r2 aa (by simpa using ho) (hso.set hqZ) hr2n (by
   rw[eV,show p.getD i 0=x from hx,hv,hdr];simp only[val];rw[Nat.mul_add,Nat.mul_add,Yt n Z,Zw Z r];omega) hk
  have r6:=r5 q;have e3:(r:Int)*1000000000+(x:Int)=(t:Int):=by simp only[hZ]at ht;omega
  have e4:(t:Int)/(n:Int)=(q:Int):=by rw[<-hq];simp
  have e5:(t:Int)%(n:Int)=(r2:Int):=by rw[<-hr2];simp
  have hrb:r<1000000000:=by simp only[hZ]at hnZ;omega
  have hn0:¬((n:Int)=0):=aa;have hqb:(q:Int)<18446744073709551616:=by simp only[hZ]at hqZ;omega
  refine ai ?_;rw[e0];simp(disch:=try exact ac)[iT,e1,e2,e3,r3,hn0,Z4,Z1,e4,e5,r6,hh];simpa using ih
theorem Gp(l:LnQ):∃z,l=gS l++List.replicate z 0:=by
 induction hn:l.length generalizing l with
 | zero=>
  have:l=[]:=Zt hn;subst this;exact⟨0,rfl⟩
 | succ n ih=>
  obtain⟨l,x,rfl⟩:∃l' x,l=l'++[x]:=⟨l.dropLast,l.getLast (by intro e;simp[e]at hn),(X7 _).symm⟩;by_cases hx:x=0
  .subst hx;rw[mz];obtain⟨z,hz⟩:=ih l (by simpa using hn);refine⟨z+1,?_⟩
   conv=>lhs;rw[hz]
   rw[List.append_assoc,List.replicate_succ']
  .rw[rV hx];exact⟨0,af⟩
theorem AA{l:LnQ}:l.take (gS l).length=gS l:=by obtain⟨z,hz⟩:=Gp l;generalize gS l=t at *;subst hz;rw[Yo rfl]
theorem yY(h:Hp)(n:Int):aP h (U n)=some (U n,h):=rfl
theorem eX{h:Hp}{a b:V}(ha:aP h a=some (va,h1))(hb:aP h1 b=some (vb,h2)):out (.tup [va,vb]) (.tup [a,b]) h:=
 ⟨h2,by simp only[aP,av,ha,hb]⟩
theorem mA{h h3:Hp}{a b c vc:V}(ha:aP h a=some (va,h1))(hb:aP h1 b=some (vb,h2))(hc:aP h2 c=some (vc,h3)):out (.tup [va,vb,vc]) (.tup [a,b,c]) h:=
 ⟨h3,by simp only[aP,av,ha,hb,hc]⟩
theorem Gz{n:Nat}(ha:(dig Z a).length<100000000)(hn:0<n)(hnZ:n<=Z):CP Y F.dd [pcs a,U n] (.tup [pcs (a/n),U (a%n:Nat)]):=by
 refine vn ?_;obtain⟨p,hp⟩:=mnQ (dig Z a);have hsp:aw Z p:=by rw[<-hp];exact aJ ah a
 have hval:val Z p=a:=by rw[<-hp];exact bG ah a
 rw[pcs,hp];rw[hp]at ha;simp(disch:=try exact ac)[dd];have e2:[(1,Bk.data 1 (List.replicate p.length (D.int IntKind.u64 0)) true false),nnQ]=H6 (List.replicate p.length 0):=by simp[H6,u6]
 rw[e2];refine lo (BQ hsp aa hn hnZ rfl _ _ rfl p.length (List.replicate p.length 0) 0 (Z7 _) af (fun x hx=>by rw[Xl]at hx;rw[hx.2];exact aU) hn (by rw[List.drop_length,Zv af];simp[val]) fun o r ho hs hr hv=>?_);simp only[fc];rw[hval]at hv
 have hq:val Z o=a/n:=by rw[hv,Ww hn,Zh hr,Nat.add_zero]
 have hr2:r=a%n:=by rw[hv,Xf,Zj hr]
 have ht:gS (o.take p.length)=dig Z (a/n):=by rw[Z0 aa,<-hq,oS ah hs]
 have tr:=tY (h:=H6 o) rfl (zp o) ho.symm (len:=p.length) (cap:=p.length) (Z7 _) aa (Z7 _);rw[ht]at tr;refine iG tr ?_ af
 have htl:o.take (dig Z (a/n)).length=dig Z (a/n):=by
  have h2:gS o=dig Z (a/n):=by rw[<-hq,oS ah hs]
  rw[<-h2];exact AA
 have sn:=wA (zp o) ho.symm (len:=(dig Z (a/n)).length) (cap:=p.length) (by rw[gZ ah,<-hq,<-ho];exact gr aU hs) (Z7 _);rw[htl]at sn;have e6:((a:Int)%(n:Int))=((a%n:Nat):Int):=af;rw[hr2,e6];exact eX sn (yY _ _)
section
variable{H:Hp}{p7 p8 pa0 pb0 pb1:V}{n i:Nat}{L lD lB x0 x1 x2 y0 y1 D v hi:Nat}
theorem MX(G:Gs Z L lD lB x0 x1 x2 y0 y1 D v hi)(hy1Z:y1<Z)(hhi:hi<Z*Z)(hn:2<=n)(hnb:n<Z)(hib:i<Z)
  (a1:ixV H 1 p7 (I ((i:Int)+(n:Int)-2))=some pa0) (a2:ld1 H pa0=some (U x0)) (b1:ixV H 1 p8 (I ((n:Int)-2))=some pb0) (b2:ld1 H pb0=some (U y0))
  (c1:ixV H 1 p8 (I ((n:Int)-1))=some pb1) (c2:ld1 H pb1=some (U y1)) (k:KL) (h0:Hp) (hh:h0.length=H.length) :
  ∀(N g r:Nat),g<=N->g*y1+r=hi->D/v<=g->(∀g':Nat,D/v<=g'->g'*v<D+v->g'<Z->k (.exit 4) [U g'] H) ->
  lp (bA (CX Y) p7 p8 (I n) (I i)) [] h0 [U g,U r] H k:=by
 intro N
 induction N with
 | zero=>
  intro g r hg0 he hq hk;have hZ:Z=1000000000:=rfl;simp only[hZ]at hhi hnb hib;have hg:g=0:=aa;have hr:r=hi:=by rw[hg]at he;omega
  have hnear:g*v<D+v:=by have:=G.pos;rw[hg,X5];omega
  have hgZ:g<Z:=by rw[hg];decide
  have g0:¬(1000000000:Int)<=(g:Int):=aa;have p0:(g:Int)*(y0:Int)=0:=by rw[hg];simp
  have hx0:=G.hx0;simp only[hZ]at hx0;clear he;refine ai ?_;by_cases g1:(r:Int)<1000000000
  .have g3:¬(r:Int)*1000000000+x0<0:=aa;simp(disch:=try exact ac)[bA,a1,a2,b1,b2,g0,g1,p0,g3];exact hk g hq hnear hgZ
  .simp[bA,a1,a2,b1,b2,g0,g1];exact hk g hq hnear hgZ
 | succ N ih=>
  intro g r hgN he hq hk;rcases Zl g with hg0|hgp
  .exact ih g r aa he hq hk
  obtain⟨g,rfl⟩:∃g',g=g'+1:=⟨g-1,aa⟩;have hZ:Z=1000000000:=rfl;simp only[hZ]at hhi hnb hib;have hrb:r<=hi:=aa
  have hgb:g+1<=hi:=by
   have:=Zy (g+1) G.hy1;omega
  have he2:g*y1+(r+y1)=hi:=by rw[X3]at he;omega
  have hx0:=G.hx0;have hy0:=G.hy0;have go:D/v<=g->lp (bA (CX Y) p7 p8 (I n) (I i)) [] h0 [U g,U (r+y1:Nat)] H k:=fun hq2=>ih g (r+y1) aa he2 hq2 hk
  obtain⟨p,hp⟩:=nmQ ((g+1)*y0);have hpi:((g:Int)+1)*(y0:Int)=(p:Int):=by rw[hp];simp
  by_cases g1:(1000000000:Int)<=(g:Int)+1
  .have hq2:=G.far (g:=g+1) (by simp only[hZ];omega);have g1':=g1;have:=go aa;refine ai ?_;simp(disch:=try exact ac)[bA,g1',c1,c2,hh];simpa using this
  have g1':=g1;by_cases g2:(r:Int)<1000000000
  .have hpb:p<=1000000000*1000000000:=by rw[hp];exact Zg aa aa
   by_cases g3:(r:Int)*1000000000+x0<p
   .have hq2:=G.over he (by rw[<-hp];simp only[hZ];omega);have g3':=g3;have:=go aa;refine ai ?_;simp(disch:=try exact ac)[bA,a1,a2,b1,b2,g1',g2,hpi,g3',c1,c2,hh];simpa using this
   .have hn1:=G.near he (by simp only[hZ];omega) (by rw[<-hp];intro h;have:=h.2;simp only[hZ]at this;omega);have g3':=g3;refine ai ?_;simp(disch:=try exact ac)[bA,a1,a2,b1,b2,g1',g2,hpi,g3',c1,c2,hh];exact hk (g+1) hq hn1 (by simp only[hZ];omega)
  .have g2':=g2;have hn1:=G.near he (by simp only[hZ];omega) (fun h=>by have:=h.1;simp only[hZ]at this;omega);refine ai ?_;simp[bA,a1,a2,b1,b2,g1',g2',c1,c2,hh];exact hk (g+1) hq hn1 (by simp only[hZ];omega)
end
theorem GH{clr:LnQ}:∀(i:Nat)(h0 h:Hp),h.length=h0.length->(∀j,mY clr (i+j)=false->∀x,h[j]?=some x->∃b,h0[j]?=some (x.1,b)∧x.2=.none)->bm clr i h0 h=h
 | _,[],h,hl,_=>by
  have:h=[]:=Zt (by simpa using hl);subst this;rfl
 |i,x0::h0,[],hl,_=>by simp at hl
 | i,x0::h0,x::h,hl,hs=>by
  rw[ew,GH (i+1) h0 h (by simpa using hl) (fun j hj y hy=>hs (j+1) (by rw[show i+(j+1)=i+1+j by omega];exact hj) y hy)];by_cases hc:mY clr i=true
  .rw[if_pos hc]
  .rw[if_neg hc];obtain⟨b,h1,h2⟩:=hs 0 (by simpa using hc) x rfl;simp only[List.getElem?_cons_zero,Z9]at h1;rw[h1];simp only;rw[<-h2]
theorem H9{clr:LnQ}:∀(i:Nat)(h:Hp),(∀x∈h,offB clr x.2=true)->oJ clr i h=true
 |_,[],_=>rfl
 | i,x::h,hs=>by
  rw[fU,hs x af,H9 (i+1) h fun y hy=>hs y (by simp[hy])];simp
def dH(g:Hp)(sa:Nat)(exa:Bool)(al ol:LnQ):Hp:=sP (sP g 4 1 true ol) sa 1 exa al
structure DvH(g:Hp)(sa:Nat)(bl:LnQ):Prop where
 len:g.length=9
 sa:sa<2
 b:g[2]?=some (1,.data 1 (bl.map u6) true false)
 c5:g[5]?=some nnQ
 c6:g[6]?=some nnQ
 off:∀x∈g,offB [5,6] x.2=true
 und:(g.all fun x=>aT 9 x.2)=true
variable{g:Hp}{sa:Nat}{exa:Bool}{al ol bl:LnQ}
theorem Na(G:DvH g sa bl):(dH g sa exa al ol).length=9:=by simp[dH,G.len]
theorem abh(G:DvH g sa bl):(dH g sa exa al ol)[sa]?=some (1,.data 1 (al.map u6) exa false):=sd (by have:=G.sa;simp[G.len];omega)
theorem abg(G:DvH g sa bl):(dH g sa exa al ol)[2]?=some (1,.data 1 (bl.map u6) true false):=by have:=G.sa;rw[dH,sP,List.getElem?_set_ne aa,sP,List.getElem?_set_ne aa,G.b]
theorem abf(G:DvH g sa bl):(dH g sa exa al ol)[4]?=some (1,.data 1 (ol.map u6) true false):=by have:=G.sa;rw[dH,sP,List.getElem?_set_ne aa];exact sd (by rw[G.len];decide)
theorem adv(hj:j=5∨j=6)(G:DvH g sa bl):(dH g sa exa al ol)[j]?=some nnQ:=by
 have:=G.sa;rw[dH,sP,List.getElem?_set_ne aa,sP,List.getElem?_set_ne aa];rcases hj with rfl|rfl
 .exact G.c5
 .exact G.c6
theorem XC(G:DvH g sa bl):(dH g sa exa al ol).set 4 (1,.data 1 (ol'.map u6) true false)=dH g sa exa al ol':=by have:=G.sa;rw[dH,sP,List.set_comm _ _ aa];simp[dH,sP]
theorem T6(G:DvH g sa bl):∀x∈dH g sa exa al ol,offB [5,6] x.2=true:=by
 intro x hx;rcases Y2 hx with h|h
 .rcases Y2 h with h|h
  .exact G.off x h
  .rw[h];rfl
 .rw[h];rfl
theorem Lt(G:DvH g sa bl){ex':Bool}:bm [5,6] 0 (dH g sa ex' al' ol') (dH g sa exa al ol)=dH g sa exa al ol:=by
 refine GH 0 _ _ (by rw[Na G,Na G]) fun j hj x hx=>?_
 have hj2:j=5∨j=6:=by
  simp only[Zn,dP,gN,We,beq_lit]at hj;by_cases h5:j=5
  .exact .inl h5
  .by_cases h6:j=6
   .exact .inr h6
   .exfalso;simp[Ne.symm h5,Ne.symm h6]at hj
 rw[adv hj2 G]at hx;cases hx;exact⟨.none,adv hj2 G,rfl⟩
theorem adu(G:DvH g sa bl){n:Nat}(hbl:bl.length=n+1):RdS (fun t=>∃l,t=sP (sP g 4 1 true ol) sa 1 exa l) (.ref 2 1 0 n (n+1) (n+1)) (bl.take n):=by
 have e1:(bl.take n).length=n:=by simp;omega
 refine⟨by rw[e1];rfl,?_⟩;rintro t i ⟨l,rfl⟩ hi;have hb:=abg (exa:=exa) (al:=l) (ol:=ol) G;refine⟨.ptr 2 1 i (n+1),?_,?_⟩
 .have:=Co hb hbl.symm (len:=n) (cap:=n+1) (i:=(i:Int)) aa aa .i64
  rwa [Int.toNat_natCast]at this
 .rw[Ec aa];exact Iz hb hbl.symm aa
theorem TM{l:LnQ}{n:Nat}(h:l.length=n+2):l.drop n=[nth 0 l n,nth 0 l (n+1)]:=by rw[Yr aa,Yr aa,Zv aa,gj _ _ _ aa,gj _ _ _ aa]
theorem ade{al db:LnQ}{i:Nat}(hsa:aw Z al)(hsb:aw Z db)(hdl:db.length=n2+2)(hi:i+db.length<al.length)(hy:0<nth 0 db (n2+1))(hD:val Z (al.drop i)<Z*val Z db):
  Gs Z (Z^n2) (val Z ((al.drop i).take n2)) (val Z (db.take n2)) (nth 0 al (i+n2)) (nth 0 al (i+n2+1)) (nth 0 al (i+n2+2)) (nth 0 db n2) (nth 0 db (n2+1)) (val Z (al.drop i)) (val Z db) (nth 0 al (i+n2+2)*Z+nth 0 al (i+n2+1)):=by
 have hvb:=gr (B:=Z) aU hsb
 have hDlt:val Z (al.drop i)<Z^(n2+3):=by
  rw[Nat.pow_succ,Zw (Z^(n2+2)),<-hdl];exact W4 hD (Xk hvb aU)
 have htop:val Z (al.drop (i+n2+3))=0:=by
  rw[show i+n2+3=i+(n2+3) by omega,<-List.drop_drop];exact JC aU hDlt
 have e1:=mK (B:=Z) (al.drop i) n2 (by grind);rw[List.drop_drop,eV al (i+n2),eV al (i+n2+1),eV al (i+n2+1+1),htop,Nat.mul_zero]at e1;simp only[Nat.add_zero]at e1;have e2:=mK (B:=Z) db n2 aa;rw[TM hdl]at e2;have l1:=gr (B:=Z) aU ((hsa.drop i).take n2);have l2:=gr (B:=Z) aU (hsb.take n2)
 rw[Zm,Yy (by grind)]at l1;rw[Zm,Yy aa]at l2;refine⟨aU,?_,?_,l1,l2,hsa.getD aU _,hsb.getD aU _,hy,hD⟩
 .rw[e1]
  show _=val Z ((al.drop i).take n2)+Z^n2*(al.getD (i+n2) 0+Z*(al.getD (i+n2+2) 0*Z+al.getD (i+n2+1) 0))
  grind
 trivial
variable{g:Hp}{sa:Nat}{exa:Bool}{bl db:LnQ}{n M m A:Nat}
theorem Ln(G:DvH g sa bl)(hdb:bl.take n=db)(hbl:bl.length=n+1)(hsb:aw Z db)(hn:2<=n)(hnb:n<Z)(hM:M=m+n)(hMb:M<100000000)(hy:0<nth 0 db (n-1))(al0 ol0:LnQ)(k:KL) :
  ∀(i:Nat)(al ol:LnQ),i<=m->al.length=M->ol.length=m->aw Z al->aw Z ol->val Z (al.drop i)<val Z db->val Z al+val Z db*val Z ol=A->(∀j,j<i->nth 0 ol j=0) ->
  (∀al' ol',al'.length=M->ol'.length=m->aw Z al'->aw Z ol'->val Z al'<val Z db->val Z al'+val Z db*val Z ol'=A->k (.exit 2) [] (dH g sa exa al' ol')) ->
  lp (dI (CX Y) (.ref sa 1 0 M M M) (.ref 2 1 0 n (n+1) (n+1)) (I n) (.ref 4 1 0 m m m)) [5,6] (dH g sa exa al0 ol0) [I ((i:Int)-1)] (dH g sa exa al ol) k
 | 0,al,ol,hi,hal,hol,hsa,hso,hD,hA,hz,hk=>by
  refine ai ?_;simp[dI]
  grind
 | i+1,al,ol,hi,hal,hol,hsa,hso,hD,hA,hz,hk=>by
  have hdl:db.length=n:=by rw[<-hdb];simp;omega
  obtain⟨n2,hn2⟩:∃n2,n=n2+2:=⟨n-2,aa⟩;have hZ:Z=1000000000:=rfl
  have hD2:val Z (al.drop i)<Z*val Z db:=by
   rw[eV];have h1:=hsa.getD aU i;have h2:=Zy Z hD;rw[Nat.mul_succ]at h2;omega
  have Gq:=ade (i:=i) hsa hsb (n2:=n2) aa aa (by rw[show n2+1=n-1 by omega];exact hy) hD2;have e0:((i+1:Nat):Int)-1=(i:Int):=aa;obtain⟨x0,hx0⟩:=mnQ (nth 0 al (i+n2));obtain⟨x1,hx1⟩:=mnQ (nth 0 al (i+n2+1));obtain⟨x2,hx2⟩:=mnQ (nth 0 al (i+n2+2));obtain⟨y0,hy0⟩:=mnQ (nth 0 db n2);obtain⟨y1,hy1⟩:=mnQ (nth 0 db (n2+1))
  have hx1Z:x1<Z:=by rw[<-hx1];exact hsa.getD aU _
  have hx2Z:x2<Z:=by rw[<-hx2];exact hsa.getD aU _
  have hy1Z:y1<Z:=by rw[<-hy1];exact hsb.getD aU _
  rw[hx0,hx1,hx2,hy0,hy1]at Gq;obtain⟨hi_,hhi⟩:=mnQ (x2*Z+x1);rw[hhi]at Gq
  have hhib:hi_<Z*Z:=by
   have:=Zx Z (show x2+1<=Z by omega);rw[Nat.add_mul]at this;omega
  have nb:∀j,j<n->nth 0 bl j=nth 0 db j:=fun j hj=>by rw[<-hdb,Ec hj]
  have rA:=fun(j:Nat)(hj:j<M)=>Co (abh (exa:=exa) (al:=al) (ol:=ol) G) hal.symm (len:=M) (cap:=M) (i:=(j:Int)) aa aa .i64
  have lA:=fun(j:Nat)(hj:j<M)=>Iz (abh (exa:=exa) (al:=al) (ol:=ol) G) hal.symm (j:=j) aa
  have rB:=fun(j:Nat)(hj:j<n)=>Co (abg (exa:=exa) (al:=al) (ol:=ol) G) hbl.symm (len:=n) (cap:=n+1) (i:=(j:Int)) aa aa .i64
  have lB:=fun(j:Nat)(hj:j<n)=>Iz (abg (exa:=exa) (al:=al) (ol:=ol) G) hbl.symm (j:=j) aa
  simp only[Int.toNat_natCast]at rA rB;have a0:=rA (i+n2) aa;have a0l:=lA (i+n2) aa;have a1:=rA (i+n2+1) aa;have a1l:=lA (i+n2+1) aa;have a2:=rA (i+n2+2) aa;have a2l:=lA (i+n2+2) aa;have b0:=rB n2 aa;have b0l:=lB n2 aa;have b1:=rB (n2+1) aa;have b1l:=lB (n2+1) aa;rw[hx0]at a0l;rw[hx1]at a1l;rw[hx2]at a2l
  rw[nb _ aa,hy0]at b0l;rw[nb _ aa,hy1]at b1l;have s0:((i+n2:Nat):Int)=(i:Int)+(n:Int)-2:=aa;have s1:((i+n2+1:Nat):Int)=(i:Int)+(n:Int)-1:=aa;have s2:((i+n2+2:Nat):Int)=(i:Int)+(n:Int):=aa;have t0:((n2:Nat):Int)=(n:Int)-2:=aa;have t1:((n2+1:Nat):Int)=(n:Int)-1:=aa;rw[s0]at a0;rw[s1]at a1;rw[s2]at a2;rw[t0]at b0;rw[t1]at b1
  have hy1p:0<y1:=Gq.hy1;have e3:(x2:Int)*1000000000+(x1:Int)=(hi_:Int):=by simp only[hZ]at hhi;omega
  obtain⟨q0,hq0⟩:=mnQ (hi_/y1);obtain⟨r0,hr0⟩:=mnQ (hi_%y1);have e4:(hi_:Int)/(y1:Int)=(q0:Int):=by rw[<-hq0];simp
  have e5:(hi_:Int)%(y1:Int)=(r0:Int):=by rw[<-hr0];simp
  have hdm:q0*y1+r0=hi_:=by rw[<-hq0,<-hr0,Zw];exact Zb hi_ y1
  have hq0b:q0<=hi_:=by rw[<-hq0];exact Y5 ..
  have hn0:¬((y1:Int)=0):=aa;have hhib2:hi_<1000000000000000000:=by simp only[hZ]at hhib;omega
  have hx2b:x2<1000000000:=by simp only[hZ]at hx2Z;omega
  have hx1b:x1<1000000000:=by simp only[hZ]at hx1Z;omega
  have hnb2:n<1000000000:=by simp only[hZ]at hnb;omega
  have fst:=Gq.first
  rw[hq0]at fst;refine ai ?_;rw[e0];simp(disch:=try exact ac)[dI,a1,a1l,a2,a2l,b1,b1l,e3,hn0,Z4,Z1,e4,e5];refine lo (MX Gq hy1Z hhib hn hnb aa a0 a0l b0 b0l b1 b1l _ _ rfl q0 q0 r0 (Z7 _) hdm fst fun g' hg1 hg2 hg3=>?_);simp only[fc]
  have hl9:(sP g 4 1 true ol).length=9:=by simp[G.len]
  have hu:((sP g 4 1 true ol).all fun x=>aT (sP g 4 1 true ol).length x.2)=true:=by rw[hl9];exact AL G.und
  have hsa2:sa<(sP g 4 1 true ol).length:=by rw[hl9];have:=G.sa;omega
  have rd:=adu (exa:=exa) (ol:=ol) G hbl;rw[hdb]at rd;obtain⟨w,hw⟩:=mnQ ((jz g' i db (db.length+1) 0 0 0 al).1);obtain⟨l1,hl1⟩:=mnQ ((jz g' i db (db.length+1) 0 0 0 al).2);obtain⟨l2,hl2⟩:=mnQ (rq i db (db.length+1) 0 0 l1);obtain⟨⟨k1,k2⟩,k3,k4⟩:=Qs (i:=i) hsa hsb aa hg3 hD2 hg2 hg1 hw hl1 hl2
  have tk:=JG (at_:=i) (g:=g') (tot:=M) hu hsa2 rd hsb hg3 aa aa hal hsa;rw[hw,hl1]at tk;have bk:=LR (at_:=i) (tot:=M) (l:=l1) hu hsa2 rd hsb aa aa aa k2;rw[hl2]at bk;have hvs:=fun q=>xj (B:=Z) ol i q aa
  have hz0:ol.getD i 0=0:=hz i aa
  have go:∀(q:Nat)(l:LnQ),aw Z l->l.length=al.length->l.take i=al.take i->q=val Z (al.drop i)/val Z db->val Z (l.drop i)=val Z (al.drop i)%val Z db ->
    lp (dI (CX Y) (.ref sa 1 0 M M M) (.ref 2 1 0 n (n+1) (n+1)) (I n) (.ref 4 1 0 m m m)) [5,6] (dH g sa exa al0 ol0) [I ((i:Int)-1)] (dH g sa exa l (ol.set i q)) k:=by
   intro q l c1 c2 c3 c4 c5;have hvp:=Gq.pos;have hqZ:q<Z:=by rw[c4];exact(Wt hvp).2 hD2
   refine Ln G hdb hbl hsb hn hnb hM hMb hy al0 ol0 k i l (ol.set i q) aa aa (by grind) c1 (hso.set hqZ) (by rw[c5];exact Zk _ hvp) ?_ (fun j hj=>by rw[vd aa];exact hz j aa) hk;have h1:=hvs q;rw[hz0,Nat.mul_zero,Nat.add_zero]at h1;have h2:=mK (B:=Z) l i aa;have h3:=mK (B:=Z) al i aa
   have h4:=Zb (val Z (al.drop i)) (val Z db);rw[<-c4,<-c5]at h4;rw[c3]at h2;rw[h1,h2,<-hA,h3,<-h4,Nat.mul_add,Nat.mul_add,Yt (val Z db) (Z^i)];omega
  clear hk hA hz;have r4:=fun l=>Co (abf (exa:=exa) (al:=l) (ol:=ol) G) hol.symm (len:=m) (cap:=m) (i:=(i:Int)) aa aa .i64
  have r5:=fun l=>Pv (abf (exa:=exa) (al:=l) (ol:=ol) G) hol.symm (j:=i) aa
  simp only[XC G,Int.toNat_natCast]at r4 r5;refine iG tk ?_ af;rw[show sP (sP g 4 1 true ol) sa 1 exa l1=dH g sa exa l1 ol from rfl];rcases Zl w with w0|wp
  .obtain⟨d1,d2,d3,d4,d5⟩:=k3 w0;have gg:=go g' l1 d1 d2 d3 d4 d5;have w1:¬0<w:=aa;have r6:=r5 l1 g';have r7:=r4 l1;simp only[jn];simp(disch:=try exact ac)[w1,r7,r6];refine⟨?_,?_⟩
   .rw[clean,H9 0 _ (T6 G)];rfl
   .rw[Lt G];exact gg
  .obtain⟨d1,d2,d3,dg,d4,d5⟩:=k4 wp;have gg:=go (g'-1) l2 d1 d2 d3 d4 d5;obtain⟨g2,hg2'⟩:=mnQ (g'-1);rw[hg2']at gg;have e6:(g':Int)-1=(g2:Int):=aa;have hg2Z:(g2:Int)<18446744073709551616:=by simp only[hZ]at hg3;omega
   have r6:=r5 l2 g2;have r7:=r4 l2;simp only[jn];simp(disch:=try exact ac)[wp,e6];refine dX (iG bk ?_ af);rw[show sP (sP g 4 1 true ol) sa 1 exa l2=dH g sa exa l2 ol from rfl];simp(disch:=try exact ac)[r7,r6];refine⟨?_,?_⟩
   .rw[clean,H9 0 _ (T6 G)];rfl
   .rw[Lt G];exact gg
theorem Bf{n:Nat}(h:n<Z^w):bv (w+1) n=bv w n++[0]:=by
 have h1:aw Z (bv w n++[0]):=(sF w n).snoc aU
 grind[zR,kq,um,Zo,c9]
theorem Tw{n:Nat}(h:n<Z^w):gS (bv w n)=dig Z n:=by rw[<-oS ah (sF w n),um w n h]
theorem og{n:Nat}(h:n<Z^w):(bv w n).take (dig Z n).length=dig Z n:=by grind[Tw,AA]
theorem mg(n:Nat):n<Z^(dig Z n).length:=(gZ ah).1 (Z7 _)
theorem jp{n:Nat}(h:n<Z^k):(dig Z n).length<=k:=(gZ ah).2 h
theorem S4{n:Nat}(h:Z^k<=n):k<(dig Z n).length:=by grind[gZ,ah]
theorem TV{n:Nat}(h:0<n):Z^((dig Z n).length-1)<=n:=by
 rcases Zf n (Z^((dig Z n).length-1))with h1|h1
 .have:=jp h1
  grind[Z]
 omega
theorem NC{n:Nat}(h:(dig Z n).length=k+1):Z^k*nth 0 (dig Z n) k<=n∧n<Z^k*(nth 0 (dig Z n) k+1)∧0<nth 0 (dig Z n) k:=by
 have e:=mK (B:=Z) (dig Z n) k aa;rw[bG ah,Yr aa,Zv aa]at e;have hn:nth 0 (dig Z n) k=(dig Z n)[k]:=gj _ _ _ aa;rw[<-hn]at e;simp only[val,Nat.mul_zero,Nat.add_zero]at e;have l:=gr (B:=Z) aU ((aJ ah n).take k);rw[Zm,Yy aa]at l
 refine⟨aa,by grind,?_⟩;rcases Zl (nth 0 (dig Z n) k)with h0|h0
 .rw[h0,Nat.mul_zero,Nat.add_zero]at e;have:=jp (n:=n) (k:=k) aa;omega
 omega
theorem Qm{q y f:Nat}(h:(dig Z q).length=k+1)(hy:nth 0 (dig Z q) k=y)(hf:Z/(y+1)=f)(hk:1<=k):0<f∧f<Z∧q*f<Z^(k+1):=by
 obtain⟨h1,h2,h3⟩:=NC h;rw[hy]at h1 h2 h3;have hyZ:y<Z:=by rw[<-hy];exact(aJ ah q).getD aU k
 have hf0:0<f:=by rw[<-hf];exact Nat.div_pos aa aa
 have hfy:f*(y+1)<=Z:=by rw[<-hf];exact X0 ..
 refine⟨hf0,?_,?_⟩
 .have:=Zy f (show 2<=y+1 by omega);omega
 .have h4:q*f<Z^k*(y+1)*f:=Xp h2 hf0;have h5:Z^k*(y+1)*f=Z^k*(f*(y+1)):=by rw[Nat.mul_assoc,Zw (y+1)]
  have h6:=Zy (Z^k) hfy;rw[Nat.pow_succ];omega
theorem JF{l:LnQ}(h:aw Z l):l.take (dig Z (val Z l)).length=dig Z (val Z l):=by grind[oS,ah,AA]
theorem NR{α:Type}{l:List α}{i:Nat}{x:α}(h:l[i]?=some x):l.set i x=l:=by
 refine Xr fun j=>?_
 by_cases hj:j=i
 .grind
 .rw[List.getElem?_set_ne (Ne.symm hj)]
variable{P Q n p f M W9 sa:Nat}{exa:Bool}{hA:Hp}
theorem Ca(hn:(dig Z Q).length=n)(h2:2<=n)(hp:(dig Z P).length=p)(hnp:n<=p)(hpb:p<10000000)(f0:0<f)(fZ:f<Z)(fQ:Q*f<Z^n)(hVe:W9=P*f)(hM:(dig Z W9).length+1=M)(hMp:p<M)
  (A9:hA.length=9) (Au:(hA.all fun x=>aT 9 x.2)=true) (Ao:∀x∈hA,offB [5,6] x.2=true) (A2:hA[2]?=some nnQ) (A4:hA[4]?=some nnQ) (A5:hA[5]?=some nnQ) (A6:hA[6]?=some nnQ) (sa2:sa<2) (Aa:hA[sa]?=some (1,.data 1 ((bv M W9).map u6) exa false)) :
  cai (CX Y).i hA (V.fn F.cC [] []) [lst u6 (dig Z Q),V.d (D.int IntKind.u64 ↑f)] 2
      fun v10 h=>
      bnd (aj v10) fun v11=>
       lp (kU (CX Y) (lst u6 (dig Z P))) [] h [.ref sa 1 0 M M M] h
        (exK
         [(Exit.exit 0,fun l12 h=>
           bnd (aj (ge l12 0)) fun v13=>
            bnd (biI BinOp.sub v13 v11) fun v14=>
             mkS 4 8 [D.int IntKind.u64 0] h v14 v14 fun v15 h=>
              bnd (aj (ge l12 0)) fun v16=>
               bnd (biI BinOp.sub v16 v11) fun v17=>
                bnd (biI BinOp.sub v17 (V.d (D.int IntKind.i64 1))) fun v18=>
                 lp (dI (CX Y) (ge l12 0) v10 v11 v15) [5,6] h [v18] h
                  (exK
                   [(Exit.exit 2,fun l19 h=>
                     cai (CX Y).i h (V.fn F.aI [] []) [ge l12 0] 7 fun v20 h=>
                      cal (CX Y).p h (V.fn F.dd [] [])
                       [v20,V.d (D.int IntKind.u64 ↑f)] fun v21 h=>
                       ext v21 0 fun v22=>
                        ext v21 1 fun v23=>
                         cai (CX Y).i h (V.fn F.aI [] []) [v15] 8 fun v24 h=>
                          out (V.tup [lst u6 (dig Z (P/Q)),lst u6 (dig Z (P%Q))])
                           (V.tup [v24,v22]) h)]))]):=by
 have hQ1:Z^(n-1)<=Q:=by
  rw[<-hn];refine TV ?_;rcases Zl Q with h|h
  .subst h;rw[show(dig Z 0).length=0 from rfl]at hn;omega
  .exact h
 have hQf:(dig Z (Q*f)).length=n:=by
  have h1:=jp fQ;have h3:=S4 (n:=Q*f) (k:=n-1) (Zs hQ1 (Yw Q f0));omega
 have hQfs:Q*f<Z^(n+1):=Z3 fQ (Z6 aU aa);have sc:=DT (h:=hA) (t0:=lst u6 (dig Z Q)) (da:=dig Z Q) (f:=f) (N:=n+1) (by grind) fZ f0 (Pb _ _) (aJ ah Q) aa aa;rw[bG ah,hQf]at sc;refine eU (e:=0) (b:=.none) sc A2 ?_;have hbl:(bv (n+1) (Q*f)).length=n+1:=c9 ..
 have hdb:(bv (n+1) (Q*f)).take n=dig Z (Q*f):=by
  have:=og hQfs
  rwa [hQf]at this
 obtain⟨bl,hble⟩:=mnQ (bv (n+1) (Q*f));rw[hble]at hbl hdb;rw[hble,Zd,hbl];obtain⟨g,hg⟩:=mnQ (hA.set 2 (0+1,.data 1 (bl.map u6) true false));rw[hg]
 have G:DvH g sa bl:=by
  rw[<-hg];refine⟨by grind,sa2,by grind,by grind,by grind,fun x hx=>?_,?_⟩
  .rcases Y2 hx with h|h
   .grind
   .rw[h];rfl
  .exact AL (s:=2) (e:=1) Au
 have g4:g[4]?=some nnQ:=by rw[<-hg];simp[A4]
 have ga:g[sa]?=some (1,.data 1 ((bv M W9).map u6) exa false):=by rw[<-hg,List.getElem?_set_ne aa];exact Aa
 have hVp:p<=(dig Z W9).length:=aa
 have hMp1:M<=p+2:=by
  have:W9<Z^(p+1):=by
   rw[hVe,Nat.pow_succ];have:=mg P;rw[hp]at this;exact Nat.mul_lt_mul_of_lt_of_lt this fZ
  have:=jp this;omega
 obtain⟨m,hm⟩:∃m,M=m+n:=⟨M-n,aa⟩;have lP:aj (lst u6 (dig Z P))=some (I (dig Z P).length):=rfl;have c1:¬((M:Int)<=((dig Z P).length:Int)):=aa;have c2:(M:Int)-(n:Int)=(m:Int):=aa;simp;refine lo (ai ?_);simp(disch:=try exact ac)[kU,lP,c1,c2,g4]
 have hd:g.set 4 (1,Bk.data 1 (List.replicate m (D.int IntKind.u64 0)) true false)=dH g sa exa (bv M W9) (List.replicate m 0):=by
  have e1:(List.replicate m (D.int IntKind.u64 0))=(List.replicate m 0).map u6:=by simp[u6]
  have e2:(sP g 4 1 true (List.replicate m 0))[sa]?=some (1,.data 1 ((bv M W9).map u6) exa false):=by
   rw[sP,List.getElem?_set_ne aa];exact ga
  show _=(sP g 4 1 true (List.replicate m 0)).set sa (1,.data 1 ((bv M W9).map u6) exa false)
  rw[NR e2,e1];rfl
 rw[hd]
 have hWlt:W9<Z^(m+(n-1)):=by
  have:=mg W9
  rwa [show(dig Z W9).length=m+(n-1) by omega]at this
 have hWM:W9<Z^M:=Z3 hWlt (Z6 aU aa);have hQfv:val Z (dig Z (Q*f))=Q*f:=bG ah _;have hZ:Z=1000000000:=rfl
 refine lo (Ln (A:=W9) (n:=n) (M:=M) (m:=m) G hdb hbl (aJ ah _) h2 aa hm aa (NC (n:=Q*f) (k:=n-1) aa).2.2 _ _ _ m (bv M W9) (List.replicate m 0) (Z7 _) (c9 ..) af (sF M W9) (fun x hx=>by grind) ?_ (by grind[rL,um]) (fun j hj=>by grind[gj]) fun al' ol' q1 q2 q3 q4 q5 q6=>?_)
 .have e1:=mK (B:=Z) (bv M W9) m (by grind[c9]);rw[um _ _ hWM]at e1;rw[Zr]at hWlt;rw[hQfv];have h3:Z^m*val Z ((bv M W9).drop m)<Z^m*Z^(n-1):=aa;have h4:=Xg h3;have h5:=Yw Q f0;omega
 .simp only[fc];rw[hQfv]at q5 q6
  have hQ0:0<Q:=by
   have:=Yq (n:=n-1) aU;omega
  have hQf0:0<Q*f:=Y4 hQ0 f0
  have hq:val Z ol'=P/Q:=by
   have:(P*f)/(Q*f)=val Z ol':=by
    rw[<-hVe,<-q6,Yx _ _ hQf0,Zh q5,Zn]
   rw[<-this,Nat.mul_div_mul_right _ _ f0]
  have hr:val Z al'=f*(P%Q):=by
   have:(P*f)%(Q*f)=val Z al':=by
    rw[<-hVe,<-q6,Ya,Zj q5]
   rw[<-this,Nat.mul_mod_mul_right,Zw]
  have l9:(dH g sa exa al' ol').length=9:=Na G;have hu:((dH g sa exa al' ol').all fun x=>aT (dH g sa exa al' ol').length x.2)=true:=by rw[l9];exact AL (AL G.und)
  have ha:=abh (exa:=exa) (al:=al') (ol:=ol') G;have tr:=tY hu ha q1.symm (len:=M) (cap:=M) (Z7 _) aa (Z7 _);have hta:gS (al'.take M)=dig Z (val Z al'):=by rw[Z0 aa,oS ah q3]
  rw[hta]at tr;refine iG tr ?_ af
  have hla:(dig Z (val Z al')).length<=M:=by
   have:=gr (B:=Z) aU q3;rw[q1]at this;exact jp this
  have sn:=wA ha q1.symm (len:=(dig Z (val Z al')).length) (cap:=M) hla (Z7 _);have htk:=JF q3;rw[htk]at sn;obtain⟨h1,hh1⟩:=mnQ ((dH g sa exa al' ol').set sa (1,.data 1 (al'.map u6) exa true));rw[hh1]at sn;have sm:=Gz (a:=val Z al') (n:=f) aa f0 aa
  refine cdz (u:=.mk) (ds:=[lst u6 (dig Z (val Z al')),U f]) (h':=h1) (by simp_all[av]) sm ?_;rw[show gh (.tup [pcs (val Z al'/f),U (val Z al'%f:Nat)])=false from rfl];have h1o:h1[4]?=some (1,.data 1 (ol'.map u6) true false):=by rw[<-hh1,List.getElem?_set_ne aa];exact abf G
  have h1u:(h1.all fun x=>aT h1.length x.2)=true:=by
   have e:h1.length=9:=by rw[<-hh1,List.length_set,l9]
   rw[e,<-hh1,Zq];intro x hx;rcases Y2 hx with h|h
   .grind
   .rw[h];rfl
  have tr2:=tY h1u h1o q2.symm (len:=m) (cap:=m) (Z7 _) aa (Z7 _);have hto:gS (ol'.take m)=dig Z (P/Q):=by rw[Z0 aa,<-hq,oS ah q4]
  rw[hto]at tr2
  show ext _ 0 _
  simp;refine dX (iG tr2 ?_ af)
  have hlo:(dig Z (P/Q)).length<=m:=by
   have:=gr (B:=Z) aU q4;rw[q2,hq]at this;exact jp this
  have sn2:=wA h1o q2.symm (len:=(dig Z (P/Q)).length) (cap:=m) hlo (Z7 _);have htk2:=JF q4;rw[hq]at htk2;rw[htk2]at sn2;have hrr:val Z al'/f=P%Q:=by rw[hr,Nat.mul_div_cancel_left _ f0]
  rw[hrr];exact eX sn2 (yX _ _ _)
theorem O1{s s' e e' L n k by_ tot:Nat}{b':Bk}{old cs:LdQ}{fr:Bool}{h:Hp}{q:kkQ}{u:PU q}(hg:h[s]?=some (e,.data n old true fr))(hs':h[s']?=some (e',b'))(ht:tot=L*n)(hold:old.length=L*n)(hcs:cs.length=k*n)(hb:(L+k)*by_<=140737488355328)
  (h0:k=0->q (.ref s e 0 L L tot) h) (h1:0<k->q (.ref s' (e'+1) 0 (L+k) (L+k) (L*n+cs.length)) (h.set s' (e'+1,.data n (old++cs) false false))):rh (apV false s' n by_ (.ref s e 0 L L tot) (.d (.sl k cs)) h) q u:=by
 unfold rh apV;simp only[cellsOf];rw[if_pos hcs];unfold apC;by_cases hk:k=0
 .grind
 .rw[if_neg hk];simp only[gX hg];rw[if_pos ⟨trivial,aa,Z7 _,aa,hcs⟩,if_neg aa,if_pos hb];simp only[if_true,new,hs',Yp];rw[Z0 aa];exact h1 aa
theorem Nq{s s' e len cap:Nat}{old:LnQ}{x:Nat}{ex:Bool}{h:Hp}{q:kkQ}{u:PU q}(hg:h[s]?=some (e,.data 1 (old.map u6) ex false))(hold:old.length=cap)(hl:len<cap)
  (hq:q (.ref s e 0 (len+1) cap cap) (h.set s (e,.data 1 ((old.take len++[x]++old.drop (len+1)).map u6) ex false))):rh (apV false s' 1 8 (.ref s e 0 len cap cap) (.d (.sl 1 [u6 x])) h) q u:=by
 unfold rh apV;simp only[cellsOf];rw[if_pos af];unfold apC;rw[if_neg aa];simp only[gX hg];rw[if_pos ⟨trivial,by grind,aa,by grind,af⟩,if_pos aa]
 simp_all
theorem O3{s s' e e' cap:Nat}{b':Bk}{old:LnQ}{x:Nat}{h:Hp}{q:kkQ}{u:PU q}(hg:h[s]?=some (e,.data 1 (old.map u6) true false))(hs':h[s']?=some (e',b'))(hold:old.length=cap)(hb:cap<1000000000000)
  (hq:q (.ref s' (e'+1) 0 (cap+1) (cap+1) (cap+1)) (h.set s' (e'+1,.data 1 ((old++[x]).map u6) false false))):rh (apV false s' 1 8 (.ref s e 0 cap cap cap) (.d (.sl 1 [u6 x])) h) q u:=by
 refine O1 (L:=cap) (old:=old.map u6) hg hs' aa (by grind) rfl aa (fun h=>by omega) fun _=>?_
 simp only[Y0,List.length_singleton];rw[show old.map u6++[u6 x]=(old++[x]).map u6 by simp];exact hq
theorem M9{P Q:Nat}(h2:2<=(dig Z Q).length)(hle:(dig Z Q).length<=(dig Z P).length)(hb:(dig Z P).length<10000000):CP Y F.dQ [pcs P,pcs Q] (.tup [pcs (P/Q),pcs (P%Q)]):=by
 refine uz ?_;obtain⟨k,hk⟩:∃k,(dig Z Q).length=k+1:=⟨(dig Z Q).length-1,aa⟩;obtain⟨y,hy⟩:=mnQ (nth 0 (dig Z Q) k);obtain⟨f,hf⟩:=mnQ (Z/(y+1));obtain⟨f0,fZ,fQ⟩:=Qm hk hy hf aa;have hZ:Z=1000000000:=rfl;have hyZ:y<Z:=by rw[<-hy];exact(aJ ah Q).getD aU k
 have hyb:y<1000000000:=by simp only[hZ]at hyZ;omega
 obtain⟨n,hn⟩:=mnQ ((dig Z Q).length);obtain⟨p,hp⟩:=mnQ ((dig Z P).length);have e1:=fun h:Hp=>qt u6 (dig Z Q) h (k:=.i64) (i:=(k:Int)) aa aa
 have e2:=fun h:Hp=>Er (dig Z Q) h (j:=k) aa
 rw[hy]at e2;simp only[Int.toNat_natCast]at e1;have e3:((dig Z Q).length:Int)-1=(k:Int):=aa
 have e4:(1000000000:Int)/((y:Int)+1)=(f:Int):=by
  rw[<-hf,hZ];simp
 have y0:¬((y:Int)+1=0):=aa;have lQ:aj (pcs Q)=some (I (dig Z Q).length):=rfl;have lP:aj (pcs P)=some (I (dig Z P).length):=rfl;simp(disch:=try exact ac)[dQ,lQ,e3,aay,e1,e2,y0,Z1,e4];obtain⟨W9,hW⟩:=mnQ (P*f)
 have hP1:Z^(p-1)<=P:=by
  rw[<-hp];refine TV ?_;rcases Zl P with h|h
  .subst h;have h0:(dig Z 0).length=0:=rfl;omega
  .exact h
 have hW1:p-1<(dig Z W9).length:=S4 (by rw[<-hW];exact Zs hP1 (Yw P f0))
 have hW2:W9<Z^(p+1):=by
  rw[<-hW,Nat.pow_succ];have:=mg P;rw[hp]at this;exact Nat.mul_lt_mul_of_lt_of_lt this fZ
 have hW3:=jp hW2
 have hli:∀h:Hp,fj 1 [D.int .u64 0] [(0,V.d (D.int IntKind.u64 0))] h=some ([u6 0],h):=fun h=>by
  rfl
 have sc:=DT (h:=[nnQ,nnQ,nnQ,nnQ,nnQ,nnQ,nnQ,nnQ,nnQ]) (t0:=lst u6 (dig Z P)) (da:=dig Z P) (f:=f) (N:=p+1) rfl fZ f0 (Pb _ _) (aJ ah P) aa aa;rw[bG ah,hW]at sc;refine dX (eU (e:=0) (b:=.none) sc rfl ?_);simp[hli];have hNl:(bv (p+1) W9).length=p+1:=c9 ..
 rcases Zf (dig Z W9).length (p+1)with hc|hc
 .have hl:(dig Z W9).length=p:=aa;have hWp:W9<Z^p:=by have:=mg W9;rwa [hl]at this
  have hcell:(bv (p+1) W9).take p++[0]++(bv (p+1) W9).drop (p+1)=bv (p+1) W9:=by
   rw[Zv aa,Bf hWp,Yo (c9 ..),Yj]
  rw[hl,hNl];refine Nq (x:=0) (ex:=true) rfl hNl aa ?_;rw[hcell];refine Ca (M:=p+1) (exa:=true) hn aa hp aa aa f0 fZ (by grind) hW.symm aa aa rfl rfl ?_ rfl rfl rfl rfl aa rfl;intro x hx;simp only[List.set_cons_zero,Zc,Yc,or_false]at hx
  rcases hx with rfl|rfl|rfl|rfl|rfl|rfl|rfl|rfl|rfl<;>rfl
 .have hl:(dig Z W9).length=p+1:=aa;have hcell:bv (p+1) W9++[0]=bv (p+2) W9:=(Bf hW2).symm;rw[hl,hNl];refine O3 (x:=0) (e':=0) (b':=.none) rfl rfl hNl aa ?_;rw[hcell];refine Ca (M:=p+2) (exa:=false) hn aa hp aa aa f0 fZ (by grind) hW.symm aa aa rfl rfl ?_ rfl rfl rfl rfl aa rfl;intro x hx
  simp only[List.set_cons_zero,List.set_cons_succ,Zc,Yc,or_false]at hx;rcases hx with rfl|rfl|rfl|rfl|rfl|rfl|rfl|rfl|rfl<;>rfl
def ac2:Acc:=⟨2,0,1,.none⟩
def toH(s:Bool)(b0:Nat×Bk)(d:LnQ):Hp:=[b0,(1,.vars [.d (.bool s),ac2.v d.length (d.map i9)]),ac2.b d.length (d.map i9)]
@[simp]theorem abS(a:Acc)(n:Nat)(c:LdQ):a.v (n+1) c=.ref a.s (a.e+1) 0 (n+1) (n+1) c.length:=id rfl
@[simp]theorem abT(a:Acc)(n:Nat)(c:LdQ):a.b (n+1) c=(a.e+1,.data a.n c false false):=id rfl
theorem HC(a:Acc)(c:LdQ):a.v 0 c=.d nPQ:=rfl
theorem HD(a:Acc)(c:LdQ):a.b 0 c=(a.e,a.b0):=rfl
theorem UQ(s:Bool)(b0:Nat×Bk)(k:KL)(h0:Hp)(hh:h0.length=3):∀(w n:Nat)(d:LnQ),w+d.length<9000000000->n<10^w->aw Z d ->
  (∀d':LnQ,aw Z d'->d'.length<=d.length+w->val Z d'=val Z d+Z^d.length*n->k (.exit 0) [] (toH s b0 d')) ->
  lp (me (CX Y) (.ptr 1 1 0 2)) [] h0 [S (co n w)] (toH s b0 d) k:=by
 intro w
 induction w using Nat.strongRecOn with
 | _ w ih=>
  intro n d hw hn hs hk;refine ai ?_;by_cases h0w:w=0
  .subst h0w;simp at hn;subst hn;simp(disch:=try exact ac)[me,co];exact hk d hs aa af
  ·obtain ⟨v,u,hv1,hv9,hvw,hu,huv⟩:∃v u:Nat,1<=v∧v<=9∧w=u+v∧mx2 true 0 ((w:Int)-9)=u∧(u=0∨v=9):=by
    by_cases h9:w<=9
    .exact⟨w,0,aa,h9,aa,by simp[mx2];omega,.inl rfl⟩
    .exact⟨9,w-9,aa,aa,aa,by simp[mx2];omega,.inr rfl⟩
   have hD:=sR v u n;rw[<-hvw]at hD;have hl:=aS w n;have hlu:=aS u (n/10^v)
   have e1:(co n w).drop u=co (n%10^v) v:=by
    rw[hD,Wv hlu];have:=uB v (n%10^v) (n/10^v);rw[Yi]at this;exact this
   have e2:(co n w).take u=co (n/10^v) u:=by
    rw[hD,Yo hlu]
   have hp:0<10^v:=Yq ae;have hm:=Zk n hp
   have hZv:10^v<=Z:=by
    have:10^v<=10^9:=Z6 ae hv9;exact this
   have hnu:n/10^v<10^u:=Y8 (by rw[hvw,Yf,Zr]at hn;exact hn)
   have hval:n%10^v+Z*(n/10^v)=n:=by
    have:=Yi n (10^v);rcases huv with rfl|rfl
    .rw[Nat.pow_zero]at hnu;have h3:n/10^v=0:=Nat.lt_one_iff.1 hnu;rw[h3]at this ⊢;simpa using this
    .exact this
   have:=ih u aa (n/10^v) (d++[n%10^v]) ak hnu (hs.snoc (Z3 hm hZv)) (fun d' h1 h2 h3=>hk d' h1 (by simp at h2;omega) (by
    rw[h3,kq,Zo,List.length_singleton,Nat.pow_succ,Nat.mul_assoc,Nat.add_assoc,<-Nat.mul_add,hval]))
   generalize co n w=L at *;generalize n%10^v=r at *;clear hval hk ih;simp(disch:=try exact ac)[me,mxI,hl,hu,e1,e2];refine cd (De hv1 aa hm) ?_;simp(disch:=try exact ac)[toH]
   have hli:fj 1 [D.int IntKind.i64 0] [(0,I r)] [b0,(1,.vars [.d (.bool s),ac2.v d.length (d.map i9)]),ac2.b d.length (d.map i9)]=some ([i9 r],[b0,(1,.vars [.d (.bool s),ac2.v d.length (d.map i9)]),ac2.b d.length (d.map i9)]):=by
    simp[fj,i9,fS,hO,toD]
   rw[hli];simp(disch:=try exact ac);refine rI ac2 (k:=1) (cs:=[i9 r]) aa (by rfl) (by simp[ac2]) (by simp[ac2]) rfl af aa (by simp[ac2]) ?_;simp(disch:=try exact ac)[ac2,hl,hu,e1,e2,hh];simpa[toH,ac2]using this
theorem UP{s:Bool}{n:Nat}(hw:w<900000000)(hn:n<10^w)(T:LuQ)(hT:T=if s then 45::co n w else co n w)(hp:[45].isPrefixOf T=s):CP Y F.az [S T] (wh (s&&decide (0<n)) n):=by
 refine za ?_;simp(disch:=try exact ac)[az];refine cd (OD s hp) ?_;simp(disch:=try exact ac);refine dy (l:=[S (co n w)]) (h:=toH s (1,.vars [.d (.bool false),.d nPQ]) []) (fun q=>?_) ?_
 .cases s
  .simp at hT;subst hT;simp(disch:=try exact ac)[toH,HC,HD,ac2]
  .simp at hT;subst hT;simp(disch:=try exact ac)[toH,HC,HD,ac2]
 simp(disch:=try exact ac);refine lo (UQ s _ _ _ rfl w n [] ak hn (fun x hx=>by simp at hx) fun d hd1 hd2 hd3=>?_);simp[val]at hd2 hd3;have ht:=qH (s:=s) hd1 aa;rw[hd3]at ht;simp(disch:=try exact ac)[toH]
 obtain⟨h',h1,h2⟩:=uJ ac2 (L:=d.length) (cells:=d.map i9) (h:=[(1,.vars [.d (.bool false),.d nPQ]),(1,.vars [.d (.bool s),ac2.v d.length (d.map i9)]),ac2.b d.length (d.map i9)]) rfl (by simp[ac2]);refine cdz (ds:=[.agg [.d (.bool s),lst i9 d]]) (h':=h') ?_ ht ?_
 .simp[av,aP,h1,lst]
 .rw[if_neg (by simp[wh,gh,tf,bu,lst])];rcases h2 with⟨_,rfl⟩|⟨_,rfl⟩
  .simp(disch:=try exact ac)[wh,zq,bu];exact qU _ _ _
  .simp(disch:=try exact ac)[wh,zq,bu,ac2];exact qU _ _ _
theorem ND(hz:ndg z.natAbs<900000000):CP Y F.az [S (itoa z)] (iH z):=by
 have:=UP (s:=decide (z<0)) hz (ci z.natAbs) (itoa z) (by unfold itoa ag;simp) (by
  unfold itoa;split
  .rename_i h;simp[h]
  .rename_i h;have h1:=qO z.natAbs;cases hI:ag z.natAbs with
   |nil=>exact absurd hI (w6 _)
   | cons b t=>
    rw[hI]at h1;simp at h1;simp[h];simpa[List.isPrefixOf]using Ne.symm h1)
 have e:(decide (z<0)&&decide (0<z.natAbs))=decide (z<0):=by
  rw[<-Bool.decide_and,decide_eq_decide];omega
 rw[e]at this;exact this
theorem ME(h1 : -9223372036854775808<z)(h2:z<9223372036854775808):CP Y F.gT [I z] (iH z):=by
 refine zb ?_;have hn:ndg z.natAbs<=19:=cg (by simp only[Nat.reducePow];omega) aa;have ht:=ND (z:=z) aa;unfold iH at ht ⊢;generalize decide (z<0)=s at *;simp(disch:=try exact ac)[gT];refine cd (GI h1 h2) ?_;generalize z.natAbs=n at *;simp(disch:=try exact ac);refine cd ht ?_
 simp(disch:=try exact ac)[wh,zq,bu];exact qU _ _ _
theorem uK(k:Nat):Z^k=10^(9*k):=by rw[Xc];rfl
theorem Tn(s:Bool)(k:KL)(h0:Hp)(hh:h0.length=1):∀(q p:LnQ),(p++q).length<100000000->aw Z (p++q)->uL (p++q)->q≠[] ->
  (k (.exit 0) [S (ag (val Z (p++q)))] [(1,.vars [.d (.bool s),lst i9 (p++q)])]) ->
  lp (kv (CX Y) (.ptr 0 1 0 2)) [] h0 [S (co (val Z p) (9*p.length)),I p.length] [(1,.vars [.d (.bool s),lst i9 (p++q)])] k
 |[]=>fun p hN hs hn hq hk=>absurd rfl hq
 | x::q=>by
  intro p hN hs hn hq hk;have hx:x<Z:=hs x af;have hx2:x<1000000000:=hx;have hvp:val Z p<10^(9*p.length):=by rw[<-uK];exact gr aU (fun y hy=>hs y (by simp[hy]))
  have hnd:ndg x<=9:=cg (by simpa using hx2) ae;have hnd1:=k8 x;have hil:(ag x).length=ndg x:=aS _ _;have hit:itoa (x:Int)=ag x:=by unfold itoa;rw[if_neg aa];rfl
  have hpl:(co (val Z p) (9*p.length)).length=9*p.length:=aS _ _;simp at hN;refine ai ?_;simp(disch:=try exact ac)[kv];refine cd (xD (z:=x) aa aa) ?_;rw[hit];cases q with
  | nil=>
   have hx0:x≠0:=by have:=hn af;simpa using this
   have he:ag (val Z (p++[x]))=ag x++co (val Z p) (9*p.length):=by
    rw[kq,uK];exact G7 aa hvp
   rw[he]at hk;generalize co (val Z p) (9*p.length)=L at *;generalize ag x=M at *;clear he;simp(disch:=try exact ac);refine dy (l:=[S M]) (h:=[(1,.vars [.d (.bool s),lst i9 (p++[x])])]) (fun q=>?_) ?_
   .simp(disch:=try exact ac)
   simp(disch:=try exact ac)[hil,hpl,hh];refine ai ?_;simp(disch:=try exact ac)[kv];exact hk
  | cons y q=>
   have hpad:=Vp (n:=x) (w:=9) hnd
   have he:co (val Z (p++[x])) (9*(p++[x]).length)=co x 9++co (val Z p) (9*p.length):=by
    have:=sR (9*p.length) 9 (val Z (p++[x]));rw[Zo,List.length_singleton,show 9*(p.length+1)=9+9*p.length by omega,this,kq,uK,Yx _ _ (Yq ae),Zh hvp,Zn,uB]
   have:=Tn s k h0 hh (y::q) (p++[x]) ak (by simpa using hs) (by simpa using hn) af (by simpa using hk);rw[he]at this;have hdl:(co x 9).length=9:=aS _ _;rw[<-hpad]at this hdl;generalize co (val Z p) (9*p.length)=L at *;generalize ag x=M at *;clear he hk hpad hs hn hvp;simp(disch:=try exact ac);refine aE ?_
   simp(disch:=try exact ac)[hil];rw[show(9:Int)-(ndg x:Int)=((9-ndg x:Nat):Int) by omega];refine cd (PK aa) ?_;simp(disch:=try exact ac)[hil,hpl,hh];simpa using this
theorem IF{s:Bool}{n:Nat}(hn:bz n<100000000)(hs:n=0->s=false):CP Y F.cZ [wh s n] (S (if s then 45::ag n else ag n)):=by
 refine xU ?_;by_cases h0:n=0
 .subst h0;rw[hs rfl];simp(disch:=try exact ac)[cZ,wh,bu,pS];exact fw (by unfold ag ndg;rfl)
 .have hd:dig Z n≠[]:=fun e=>h0 ((sQ ah).1 e)
  have hlen:¬(dig Z n).length=0:=fun e=>hd (Zt e)
  have hsm:=aJ ah n;have hno:=pT ah n;have hv:=bG ah n;have hil:(ag n).length=ndg n:=aS _ _
  have hnn:ndg n<=9*bz n:=cg (by
   have:=gr aU hsm;rw[hv,uK]at this;exact this) (by unfold bz;omega)
  unfold bz at hn hnn;generalize hD:dig Z n=d at *;simp(disch:=try exact ac)[cZ,wh,bu,hD,hlen];refine lo (Tn s _ _ rfl d [] (by simpa using hn) (by simpa using hsm) (by simpa using hno) hd ?_);simp only[List.nil_append,hv];generalize ag n=M at *;cases s
  .simp(disch:=try exact ac);refine dy (l:=[S M]) (h:=[(1,.vars [.d (.bool false),lst i9 d])]) (fun q=>?_) ?_
   .simp(disch:=try exact ac)
   exact fw rfl
  .simp(disch:=try exact ac);refine dy (l:=[S (45::M)]) (h:=[(1,.vars [.d (.bool true),lst i9 d])]) (fun q=>?_) ?_
   .simp(disch:=try exact ac)[hil]
   exact fw rfl
theorem WB(hz:bz z.natAbs<100000000):CP Y F.cZ [iH z] (S (itoa z)):=by have:=IF (s:=decide (z<0)) hz (by intro h;simp;omega);unfold itoa iH;simpa using this
theorem M1{n:Nat}(h2:n<18446744073709551616):CP Y F.eB [U n,I 10] (S (ag n)):=by
 refine vh ?_;have hd1:=k8 n;have hd2:ndg n<=20:=cg aa aa;have hn:=ci n;by_cases hs:(n:Int)<100
 .simp(disch:=try exact ac)[eB,hs];refine cd (JK (n:=n) aa) ?_;exact fw rfl
 .have hn0:0<n:=aa;have hit:ag n=co n (ndg n):=rfl;have hlo:=AV n hn0;generalize ndg n=d at *
  obtain ⟨mid,post,hm,hp,hcell⟩:∃mid post:LdQ,mid.length=d∧post.length=24-d∧List.replicate 24 (D.int .u8 0)=[]++(mid++post):=by
   refine⟨List.replicate d (.int .u8 0),List.replicate (24-d) (.int .u8 0),af,af,?_⟩;rw[Xx,show d+(24-d)=24 by omega];rfl
  simp[eB,hs];refine cd (zu hlo hn hd1 h2) ?_;simp only[List.replicate]at hcell;rw[hcell];rw[show[(1,Bk.data 1 ([]++(mid++post)) true false),nnQ]=cH ([]++(mid++post))from rfl];rw[HR ak d rfl aa];simp;refine iG (h':=cH ([]++((co n d).map u8++post))) (ZB (pre:=[]) rfl hm aa aa hn h2) ?_ af
  rw[HR (by simp[aS];omega) d rfl aa];simp;rw[Nb (bs:=co n d) (by simp[aS];omega) aa (by simp[aS,List.take_append,Z0]) (by simp[aS])];rw[hit]
  try simp
  exact fw rfl
theorem K5{n:Nat}(h:n<18446744073709551616):CP Y F.ib [U n,I 10] (S (ag n)):=by refine ww ?_;simp[ib];refine cd (M1 h) ?_;exact fw rfl
theorem AT{n:Nat}(h:n<18446744073709551616):CP Y F.jR [U n] (S (ag n)):=by refine IM ?_;simp[jR];refine cd (K5 h) ?_;exact fw rfl
theorem Bn:∀(l:LuQ)(a:Nat),yH a l=c8 a l
 |[],_=>rfl
 |c::l,a=>Bn l _
theorem digit_eq(c:UInt8):Bo c=oL c:=by simp only[Bo,oL];rw[Ym];simp
theorem PV{n:Nat}(h:n<10000000000000000000):CP Y F.gy [S (ag n),I 10,I 64] (.tup [U n,.d (.pl .nilIface)]):=by
 have hd:=fo n;have hc:=vr n
 have hl:(ag n).length<=1000:=by
  have:=cg (n:=n) (d:=19) aa ae;rw[ag,aS];omega
 simp only[qX,Z8]at hc
 have hall:(ag n).all Bo=true:=by
  rw[<-hc.1.2];congr 1;funext c;exact digit_eq c
 have ho:Y.X.orc F.gy [.string ⟨⟨ag n⟩⟩,.int .i64 10,.int .i64 64]=some (.tuple #[.int .u64 n,.nilIface]):=by
  have e:∀a,Y.X.orc F.gy a=J6 a:=fun a=>by
   show(match Nat.beq F.gy F.gy with|true=>J6 a|false=>none)=_
   rw[Xe]
  rw[e];unfold J6;simp only;rw[if_pos ⟨trivial,trivial,w6 n,hall,hl,by rw[Bn,hd];exact h⟩,Bn,hd]
 exact CP.orc ho (by intro x hx;simp only[Zc,Yc,or_false]at hx;rcases hx with rfl|rfl|rfl<;>rfl) rfl
theorem AF{n:Nat}(h:n<10000000000000000000):CP Y F.jD [S (ag n)] (.tup [U n,B true]):=by refine Cr ?_;simp[jD];refine cd (PV h) ?_;simp[MG];exact eX (yY _ _) rfl
theorem mM(n:Nat):ij (S (ag n))=some (I (ndg n)):=by
 show some (I (ag n).length)=_
 rw[ag,aS]
theorem Db(a b:Nat):CP Y F.gH [S (ag a),S (ag b)] (if ndg a<=18∧ndg b<=18 then .tup [U a,U b,B true]else .tup [U 0,U 0,B false]):=by
 refine EU ?_;have la:=mM a;have lb:=mM b;by_cases h1:18<ndg a
 .rw[if_neg aa];simp(disch:=try exact ac)[gH,la,lb,h1];exact mA (yY _ _) (yY _ _) rfl
 by_cases h2:18<ndg b
 .rw[if_neg aa];simp(disch:=try exact ac)[gH,la,lb,h1,h2];exact mA (yY _ _) (yY _ _) rfl
 .rw[if_pos aa];have ha:a<10000000000000000000:=by have:=ci a;have:=Z6 (n:=10) ae (show ndg a<=18 by omega);omega
  have hb:b<10000000000000000000:=by have:=ci b;have:=Z6 (n:=10) ae (show ndg b<=18 by omega);omega
  simp(disch:=try exact ac)[gH,la,lb,h1,h2];refine cd (AF ha) ?_;simp;refine cd (AF hb) ?_;simp;exact mA (yY _ _) (yY _ _) rfl
theorem ZK(l:LuQ)(h:Hp)(k:kkQ):cvB (S l) h k=k (lst u8 l) h:=rfl
variable{h:Hp}
theorem T8{C0:Nat}(l:LuQ)(hl:l.length<=9)(hd:l.all oL=true)(k:KL)(h0 H:Hp)(hh:h0.length=H.length):∀(q p:LuQ),p++q=l->k (.exit 2) [U (c8 0 l:Nat)] H ->
  lp (pW (CX Y) h.length (lst u8 l) (I l.length)) [] h0 [U (c8 0 p:Nat),I p.length] H k
 | []=>by
  intro p hp hk;simp at hp;subst hp;refine ai ?_;simp[pW];exact hk
 | c::q=>by
  intro p hp hk;have hpl:p.length<l.length:=by subst hp;simp
  have hc:nth 0 l p.length=c:=by subst hp;simp
  have hcd:oL c=true:=by
   rw[Zq]at hd;exact hd c (by subst hp;simp)
  rw[jM]at hcd
  have hpd:p.all oL=true:=by
   rw[Zq]at hd ⊢;exact fun x hx=>hd x (by subst hp;simp[hx])
  have e1:=fun h:Hp=>qt u8 l h (k:=.i64) (i:=(p.length:Int)) aa aa
  have e2:=fun h:Hp=>lC u8 0 l h (j:=p.length) hpl
  rw[hc]at e2;simp only[Int.toNat_natCast]at e1;have hb:=ul p 0 hpd
  have hb2:c8 0 p<1000000000:=by
   have:=Z6 (n:=10) ae (show p.length<=8 by omega);omega
  have e3:c8 0 (p++[c])=10*c8 0 p+(c.toNat-48):=by
   rw[rF];simp only[c8,List.foldl_cons,List.foldl_nil];omega
  have ih:=T8 (C0:=C0) l hl hd k h0 H hh q (p++[c]) (by simpa using hp) hk;rw[e3]at ih;obtain⟨t,ht⟩:=mnQ (c8 0 p);rw[ht]at ih hb2 ⊢;have e4:(10:Int)*(t:Int)+((c.toNat:Int)-48)=((10*t+(c.toNat-48):Nat):Int):=aa;obtain⟨t2,ht2⟩:=mnQ (10*t+(c.toNat-48));rw[ht2]at ih e4;have hcb:=hcd.1;have hcb2:=hcd.2;refine ai ?_
  simp(disch:=try exact ac)[pW,e1,e2,u8,e4];simpa[hh]using ih
def cuH(h:Hp)(l:LnQ):Hp:=h++[(1,.data 1 (l.map u6) true false),nnQ,nnQ]
theorem OU(h:Hp)(l:LnQ):(cuH h l)[h.length]?=some (1,.data 1 (l.map u6) true false):=by simp[cuH]
theorem XH(h:Hp)(l l':LnQ):(cuH h l).set h.length (1,.data 1 (l'.map u6) true false)=cuH h l':=by simp[cuH]
@[simp]theorem XI(h:Hp)(l:LnQ):(cuH h l).length=h.length+3:=by simp[cuH]
theorem T7(T:LuQ)(cap:Nat)(hL:T.length<9000000000)(k:KL)(h0:Hp)(hh:h0.length=h.length+3):∀(w n:Nat)(E:Int)(d:LnQ),(0<w->E=w)->(w=0->E<=0)->-20<=E->T.take w=co n w->w<=T.length->d.length+(w+8)/9<=cap->cap<1000000000000->n<10^w->aw Z d ->
  (∀d':LnQ,aw Z d'->d'.length<=cap->val Z d'=val Z d+Z^d.length*n->k (.exit 0) [.ref h.length 1 0 d'.length cap cap] (cuH h (d'++List.replicate (cap-d'.length) 0))) ->
  lp (pX (CX Y) h.length (S T)) [] h0 [.ref h.length 1 0 d.length cap cap,I E] (cuH h (d++List.replicate (cap-d.length) 0)) k:=by
 intro w
 induction w using Nat.strongRecOn with
 | _ w ih=>
  intro n E d hE1 hE0 hEl hT hwT hw hcap hn hs hk;by_cases h0w:w=0
  .subst h0w;have hE:=hE0 rfl;have g:¬0<E:=aa;simp at hn;subst hn;refine ai ?_;simp[pX,g];exact hk d hs aa af
  .obtain rfl:=hE1 aa
   obtain ⟨v,u,hv1,hv9,hvw,hu,huv⟩:∃v u:Nat,1<=v∧v<=9∧w=u+v∧mx2 true 0 ((w:Int)-9)=u∧(u=0∨v=9):=by
    by_cases h9:w<=9
    .exact⟨w,0,aa,h9,aa,by simp[mx2];omega,.inl rfl⟩
    .exact⟨9,w-9,aa,aa,aa,by simp[mx2];omega,.inr rfl⟩
   have hD:=sR v u n;rw[<-hvw]at hD;have hlu:=aS u (n/10^v)
   have e1:(T.take w).drop u=co (n%10^v) v:=by
    rw[hT,hD,Wv hlu];have:=uB v (n%10^v) (n/10^v);rw[Yi]at this;exact this
   have e2:T.take u=co (n/10^v) u:=by
    have:T.take u=(T.take w).take u:=by rw[List.take_take,Yy aa]
    rw[this,hT,hD,Yo hlu]
   have hp:0<10^v:=Yq ae;have hm:=Zk n hp
   have hZv:10^v<=Z:=by
    have:10^v<=10^9:=Z6 ae hv9;exact this
   have hnu:n/10^v<10^u:=Y8 (by rw[hvw,Yf,Zr]at hn;exact hn)
   have hval:n%10^v+Z*(n/10^v)=n:=by
    have:=Yi n (10^v);rcases huv with rfl|rfl
    .rw[Nat.pow_zero]at hnu;have h3:n/10^v=0:=Nat.lt_one_iff.1 hnu;rw[h3]at this ⊢;simpa using this
    .exact this
   have hdc:d.length<cap:=aa
   have ihh:=ih u aa (n/10^v) ((w:Int)-9) (d++[n%10^v]) (fun h=>by rcases huv with h1|h1<;>omega) (fun h=>by omega) aa e2 aa ak hcap hnu (hs.snoc (Z3 hm hZv)) (fun d' h1 h2 h3=>hk d' h1 h2 (by
    rw[h3,kq,Zo,List.length_singleton,Nat.pow_succ,Nat.mul_assoc,Nat.add_assoc,<-Nat.mul_add,hval]))
   have hr:=xF v (n%10^v) hm;have hall:=xc v (n%10^v);have hlv:=aS v (n%10^v)
   have esl:slS (S T) (some (I u)) (some (I w))=some (S (co (n%10^v) v)):=by
    rw[Mn u w rfl rfl aa hwT,<-e1,List.drop_take]
   obtain⟨r,hre⟩:=mnQ (n%10^v);rw[hre]at esl hr hall hlv ihh;generalize co r v=L at *
   have hli:∀h:Hp,fj 1 [D.int .u64 0] [(0,U r)] h=some ([u6 r],h):=fun h=>by
    simp[fj,fS,hO,toD,u6]
   have hcell:(d++List.replicate (cap-d.length) 0).take d.length++[r]++(d++List.replicate (cap-d.length) 0).drop (d.length+1)=(d++[r])++List.replicate (cap-(d++[r]).length) 0:=by
    rw[Yo rfl]
    have:List.replicate (cap-d.length) 0=0::List.replicate (cap-d.length-1) 0:=by
     rw[<-List.replicate_succ];congr 1;omega
    rw[this,<-List.drop_drop,Wv rfl];rw[show cap-d.length-1=cap-(d++[r]).length by simp;omega];simp
   have hcl:(d++List.replicate (cap-d.length) 0).length=cap:=by simp;omega
   have aH:=OU h (d++List.replicate (cap-d.length) 0);have gp:0<(w:Int):=aa;clear hk ih hval;refine ai ?_;simp(disch:=try exact ac)[pX,gp,mxI,hu,esl];rw[ZK];simp;refine lo (T8 (C0:=0) L aa hall _ _ _ rfl L [] rfl ?_);rw[hr];simp[hli];refine Nq aH hcl hdc ?_;rw[hcell,XH];simp(disch:=try exact ac)[hh]
   simpa using ihh
theorem RN{s by_:Nat}{z:D}{h:Hp}{i e:Nat}{b:Bk}{k:kkQ}{u:PU k}(hs:h[s]?=some (e,b))(hb:(by_:Int)*i<=281474976710656)(h1:(i:Int)<=9223372036854775807)
  (hk:k (.ref s (e+1) 0 0 i i) (h.set s (e+1,.data 1 (List.replicate i z) true false))):rh (mkS s by_ [z] h (.d (.int .i64 0)) (.d (.int .i64 i))) k u:=by unfold rh;simp only[mkS];rw[if_pos ⟨Int.le_refl _,aa,af,hb,h1⟩];simp only[new,hs,DX,Yn,Int.toNat_natCast];exact hk
theorem tR(hu:(h.all fun x=>aT h.length x.2)=true){n:Nat}(hb:ndg n<900000000)(hcap:cap=ndg n/9+1):
  CI Y F.de [S (ag n)] h (.new 1 ((bv cap n).map u6) true (dig Z n).length cap) h:=by
 refine FY ?_;have hl:=mM n;have hlT:(ag n).length=ndg n:=by rw[ag,aS]
 have e1:((ndg n:Nat):Int)/9+1=(cap:Int):=aa
 have e3:(h++[(1,Bk.data 1 (List.replicate cap (D.int IntKind.u64 0)) true false),nnQ,nnQ])=cuH h ([]++List.replicate (cap-([]:LnQ).length) 0):=by
  simp[cuH,u6]
 have e4:(h++[(0,Bk.none),(0,Bk.none),(0,Bk.none)]).set h.length (1,Bk.data 1 (List.replicate cap (D.int IntKind.u64 0)) true false)=cuH h ([]++List.replicate (cap-([]:LnQ).length) 0):=by
  simp[cuH,u6]
 have hcap2:cap<1000000000000:=aa;simp(disch:=try exact ac)[de,hl,Z1,e1];refine RN (e:=0) (b:=.none) af aa aa ?_;simp[hl]
 try rw[e4]
 try rw[e3]
 refine lo (T7 (ag n) cap aa _ _ (XI ..) (ndg n) n (ndg n) [] (fun _=>rfl) (fun h=>by have:=k8 n;omega) aa (by rw[<-hlT,Yb];rw[hlT];rfl) aa ak hcap2 (ci n) (fun x hx=>by cases hx) fun d hs hdl hv=>?_);simp only[fc];have hv':val Z d=n:=by rw[hv];simp[val]
 obtain⟨o,ho⟩:=mnQ (d++List.replicate (cap-d.length) 0);have hol:o.length=cap:=by rw[<-ho];simp;omega
 have hos:aw Z o:=by
  rw[<-ho];exact hs.append fun x hx=>by rw[Xl]at hx;rw[hx.2];exact aU
 have hov:val Z o=n:=by rw[<-ho,UM,hv']
 rw[ho];have hfix:o=bv cap n:=by rw[<-hov,<-hol];exact zR o hos
 have hu2:((cuH h o).all fun x=>aT (cuH h o).length x.2)=true:=by
  have hm:(h.all fun x=>aT (cuH h o).length x.2)=true:=Nr af hu;rw[cuH,Xz,<-cuH,hm];rfl
 have htk:o.take d.length=d:=by rw[<-ho,Yo rfl]
 have tr:=tY hu2 (OU h o) hol.symm (len:=d.length) (cap:=cap) (Z7 _) hcap2 hdl;rw[htk,<-oS ah hs,hv']at tr;refine iG tr ?_ af;rw[<-hfix];refine⟨by simp[cuH],by simpa using hu,.inr (.inr (.inl ⟨h.length,1,_,cap,1,o.map u6,true,by simp[hol],Z7 _,by simp[aH,cuH],rfl⟩))⟩
variable{h:Hp}{s e tot:Nat}{l:LuQ}{ex fr:Bool}
theorem ix8(hg:h[s]?=some (e,.data 1 (l.map u8) ex fr))(ht:tot=l.length){len:Nat}{i:Int}(h0:0<=i)(h1:i<len)(k:IntKind):ixV h 1 (.ref s e 0 len cap tot) (.d (.int k i))=some (.ptr s e i.toNat tot):=by grind[ixV,gX]
theorem ld8(hg:h[s]?=some (e,.data 1 (l.map u8) ex fr))(ht:tot=l.length)(hj:j<l.length):ld1 h (.ptr s e j tot)=some (.d (u8 (nth 0 l j))):=by
 have e1:tot=(l.map u8).length:=by simp[ht]
 grind[ld1,gX,gj]
theorem st8(hg:h[s]?=some (e,.data 1 (l.map u8) ex false))(ht:tot=l.length)(hj:j<l.length)(x:UInt8):st h 1 (.ptr s e j tot) (.d (u8 x))=some (h.set s (e,.data 1 ((l.set j x).map u8) ex false)):=by
 have e1:(l.map u8).take j++[u8 x]++(l.map u8).drop (j+1)=(l.set j x).map u8:=by
  rw[List.map_set,Yh,if_pos (by grind)];simp
 simp only[st,if_true,sto,gX hg,hO,toD];rw[if_pos ⟨trivial,by grind,by grind⟩];simp only[cK,List.length_singleton];rw[<-e1];rfl
theorem ap8{s' cap len:Nat}{x:UInt8}{q:kkQ}{u:PU q}(hg:h[s]?=some (e,.data 1 (l.map u8) ex false))(hold:l.length=cap)(hl:len<cap)
  (hq:q (.ref s e 0 (len+1) cap cap) (h.set s (e,.data 1 ((l.take len++[x]++l.drop (len+1)).map u8) ex false))):rh (apV false s' 1 1 (.ref s e 0 len cap cap) (.d (.sl 1 [u8 x])) h) q u:=by
 unfold rh apV;simp only[cellsOf];rw[if_pos af];unfold apC;rw[if_neg aa];simp only[gX hg];rw[if_pos ⟨trivial,by grind,aa,by grind,af⟩,if_pos aa]
 simp_all
def s8(h:Hp)(s e:Nat)(ex:Bool)(l:LuQ):Hp:=h.set s (e,.data 1 (l.map u8) ex false)
theorem Rk{h:Hp}{s e:Nat}{ex:Bool}{l:LuQ}(hs:s<h.length):(s8 h s e ex l)[s]?=some (e,.data 1 (l.map u8) ex false):=by simp[s8,hs]
theorem Rj{h:Hp}{s e:Nat}{ex:Bool}{l l':LuQ}:(s8 h s e ex l).set s (e,.data 1 (l'.map u8) ex false)=s8 h s e ex l':=by simp[s8]
@[simp]theorem aeO{h:Hp}{s e:Nat}{ex:Bool}{l:LuQ}:(s8 h s e ex l).length=h.length:=by simp[s8]
theorem SB{l:LuQ}{m n:Nat}{v:UInt8}(hm:m<l.length):nth 0 (l.set m v) n=if m=n then v else nth 0 l n:=by grind[nth]
theorem RO{h:Hp}{s e tot:Nat}{ex:Bool}(hs:s<h.length){L:Nat}(hL:L<=tot)(htb:tot<1000000000000)(l0:LuQ)(k:KL)(h0:Hp)(hh:h0.length=h.length):
  ∀(r i:Nat)(l:LuQ),L<=2*i+r->2*i<=L+1->l.length=tot->(∀m,m<L->(m<i∨L-1-m<i)->nth 0 l m=nth 0 l0 (L-1-m))->(∀m,m<L->i<=m->i<=L-1-m->nth 0 l m=nth 0 l0 m)->(∀m,L<=m->nth 0 l m=nth 0 l0 m) ->
  (∀l':LuQ,l'.length=tot->(∀m,m<L->nth 0 l' m=nth 0 l0 (L-1-m))->(∀m,L<=m->nth 0 l' m=nth 0 l0 m)->k (.exit 0) [] (s8 h s e ex l')) ->
  lp (dS (CX Y) h.length (.ref s e 0 L cap tot)) [] h0 [I i,I ((L:Int)-1-i)] (s8 h s e ex l) k:=by
 intro r
 induction r with
 | zero=>
  intro i l hr hi hl h1 h2 h3 hk;refine ai ?_;have g:¬((i:Int)<(L:Int)-1-i):=aa;simp[dS,g];exact hk l hl (fun m hm=>h1 m hm aa) h3
 | succ r ih=>
  intro i l hr hi hl h1 h2 h3 hk;by_cases g:i+i+1<L
  .obtain⟨j,hj⟩:=mnQ (L-1-i);have g':((i:Int)<(L:Int)-1-i):=aa;have ej:(L:Int)-1-i=(j:Int):=aa;have hgt:=Rk (e:=e) (ex:=ex) (l:=l) hs;have a1:=ix8 hgt hl.symm (len:=L) (cap:=cap) (i:=(j:Int)) aa aa .i64;have a2:=ld8 hgt hl.symm (j:=j) aa;have b1:=ix8 hgt hl.symm (len:=L) (cap:=cap) (i:=(i:Int)) aa aa .i64
   have b2:=ld8 hgt hl.symm (j:=i) aa;have b3:=st8 hgt hl.symm (j:=i) aa (nth 0 l j);rw[Rj]at b3;have hgt2:=Rk (e:=e) (ex:=ex) (l:=l.set i (nth 0 l j)) hs;have c1:=ix8 hgt2 (by simpa using hl.symm) (len:=L) (cap:=cap) (i:=(j:Int)) aa aa .i64;have c3:=st8 hgt2 (by simpa using hl.symm) (j:=j) ak (nth 0 l i);rw[Rj]at c3
   simp only[Int.toNat_natCast]at a1 b1 c1
   have nn:∀m,nth 0 ((l.set i (nth 0 l j)).set j (nth 0 l i)) m=if j=m then nth 0 l i else if i=m then nth 0 l j else nth 0 l m:=fun m=>by
    rw[SB ak,SB aa]
   have ihh:=ih (i+1) ((l.set i (nth 0 l j)).set j (nth 0 l i)) aa aa (by simpa using hl) (fun m hm hc=>by
    rw[nn];by_cases e1:j=m
    .rw[if_pos e1,h2 i aa (Z7 _) aa];congr 1;omega
    .rw[if_neg e1];by_cases e2:i=m
     .rw[if_pos e2,h2 j aa aa aa];congr 1;omega
     .rw[if_neg e2];exact h1 m hm aa) (fun m hm hc hc2=>by
    rw[nn,if_neg aa,if_neg aa];exact h2 m hm aa aa) (fun m hm=>by
    rw[nn,if_neg aa,if_neg aa];exact h3 m hm) hk
   have e2:(j:Int)-1=(L:Int)-1-((i+1:Nat):Int):=aa;rw[<-e2]at ihh;clear hk ih;refine ai ?_;rw[ej]at g' ⊢;simp(disch:=try exact ac)[dS,g',a1,a2,b1,b2,b3,c1,c3];simpa[hh]using ihh
  .refine ai ?_;have g':¬((i:Int)<(L:Int)-1-i):=aa;simp[dS,g']
   exact hk l hl (fun m hm=>by
    by_cases hc:m<i∨L-1-m<i
    .exact h1 m hm hc
    .rw[h2 m hm aa aa];congr 1;omega) h3
theorem afn{x y:LuQ}(hl:x.length=y.length)(h:∀c,c<x.length->nth 0 x c=nth 0 y c):x=y:=by grind[List.ext_getElem,gj]
theorem U6{h:Hp}(hu:(h.all fun x=>aT h.length x.2)=true){s e tot:Nat}{ex:Bool}(hs:s<h.length){L:Nat}(hL:L<=tot)(htb:tot<1000000000000){l:LuQ}(hl:l.length=tot):
  CI Y F.bU [.ref s e 0 L cap tot] (s8 h s e ex l) (.tup []) (s8 h s e ex ((l.take L).reverse++l.drop L)):=by
 refine rY ?_;simp(disch:=try exact ac)[bU];have e1:(L:Int)-1=(L:Int)-1-((0:Nat):Int):=aa;rw[e1]
 have:=RO (h:=h) (s:=s) (e:=e) (ex:=ex) hs (cap:=cap) hL htb l (exK [(.exit 0,fun l3 h_1=>pK (List.length (s8 h s e ex l)) (.tup []) (s8 h s e ex ((l.take L).reverse++l.drop L)) (.tup []) h_1)]) (s8 h s e ex l) af L 0 l aa aa hl (fun m hm hc=>by omega) (fun m _ _ _=>rfl) (fun m _=>rfl) fun l' hl' h1 h2=>by
  have hE:l'=(l.take L).reverse++l.drop L:=by
   refine afn (by grind) fun c hc=>?_
   by_cases hcL:c<L
   .rw[h1 c hcL,gj _ _ _ aa,gj _ _ _ (by grind)]
    grind
   .rw[h2 c aa,gj _ _ _ aa,gj _ _ _ (by grind)]
    grind
  subst hE;simp only[fc];refine⟨(Z0 af).symm,?_,.inl ⟨rfl,rfl⟩⟩;rw[Zq]at hu ⊢;intro x hx;rcases Y2 hx with h|h
  .simpa using hu x h
  .rw[h];rfl
 trivial
def tH(l:LuQ):Hp:=[(1,.data 1 (l.map u8) true false),nnQ,nnQ]
theorem QY(l:LuQ):(tH l)[0]?=some (1,.data 1 (l.map u8) true false):=rfl
@[simp]theorem aeA(l:LuQ):(tH l).length=3:=rfl
theorem QX(l l':LuQ):(tH l).set 0 (1,.data 1 (l'.map u8) true false)=tH l':=rfl
theorem NE{p:LnQ}{i N:Nat}(hi:i<p.length)(hp:p.length<100000000)(hN:N<1000000000000)(k:KL)(h0:Hp)(hh:h0.length=3):∀(w j x:Nat)(bs:LuQ),
  (i+1<p.length∧j+w=9∨¬i+1<p.length∧j+w<=9∧x<10^w∧(0<w->10^(w-1)<=x))->x<1000000000->bs.length+w<=N ->
  k (.exit 2) [.ref 0 1 0 (bs.length+w) N N] (tH (bs++(co x w).reverse++List.replicate (N-(bs.length+w)) 0)) ->
  lp (dn (CX Y) (lst u6 p) (I i)) [] h0 [.ref 0 1 0 bs.length N N,U x,I j] (tH (bs++List.replicate (N-bs.length) 0)) k
 | 0,j,x,bs=>by
  intro hc hx hb hk;have lp':aj (lst u6 p)=some (I p.length):=rfl;refine ai ?_;rcases hc with⟨g1,g2⟩|⟨g1,g2,g3,g4⟩
  .have g5:¬((j:Int)<9):=aa;simp[dn,g5]
   grind[co]
  .have x0:x=0:=by simpa using g3
   subst x0;have g1':¬((i:Int)+1<(p.length:Int)):=aa;by_cases g5:(j:Int)<9
   .simp(disch:=try exact ac)[dn,g5,lp',g1']
    grind[co]
   .simp[dn,g5]
    grind[co]
 | w+1,j,x,bs=>by
  intro hc hx hb hk;have lp':aj (lst u6 p)=some (I p.length):=rfl;have g5:(j:Int)<9:=aa;have hdg:u8 (dg (x%10))=.int .u8 (48+((x%10:Nat):Int)):=Ny (Zk _ ae);obtain⟨m,hm⟩:=mnQ (x%10);obtain⟨d,hd⟩:=mnQ (x/10);have hm10:m<10:=aa;have e1:(x:Int)%10=(m:Int):=aa;have e2:(x:Int)/10=(d:Int):=aa;rw[hm]at hdg
  have hdec:(co x (w+1)).reverse=dg m::(co d w).reverse:=by rw[co,hd,hm];simp
  have ih:=NE hi hp hN k h0 hh w (j+1) d (bs++[dg m]) (by
   rcases hc with⟨g1,g2⟩|⟨g1,g2,g3,g4⟩
   .exact .inl ⟨g1,aa⟩
   .refine .inr ⟨g1,aa,?_,fun hw=>?_⟩
    .omega
    .have:=g4 aa;rw[<-hd,Wu ae,<-Nat.pow_succ,show(w-1).succ=w+1-1 by omega];omega) aa (by grind) (by
   grind)
  have hcell:(bs++List.replicate (N-bs.length) 0).take bs.length++[dg m]++(bs++List.replicate (N-bs.length) 0).drop (bs.length+1)=(bs++[dg m])++List.replicate (N-(bs++[dg m]).length) 0:=by
   rw[Yo rfl]
   have:List.replicate (N-bs.length) (0:UInt8)=0::List.replicate (N-bs.length-1) 0:=by
    rw[<-List.replicate_succ];congr 1;omega
   rw[this,<-List.drop_drop,Wv rfl];rw[show N-bs.length-1=N-(bs++[dg m]).length by grind];simp
  have hcl:(bs++List.replicate (N-bs.length) 0).length=N:=by simp;omega
  have hli:∀h:Hp,fj 1 [D.int .u8 0] [(0,.d (.int .u8 (48+(m:Int))))] h=some ([u8 (dg m)],h):=fun h=>by
   simp_all[fj,fS,hO,toD]
  have hx0:¬i+1<p.length->0<(x:Int):=fun h=>by
   grind
  clear hk;refine ai ?_;by_cases g1:(i:Int)+1<(p.length:Int)
  .simp(disch:=try exact ac)[dn,g5,lp',g1,Z4,Z1,e1,e2,hli];refine ap8 (QY _) hcl aa ?_;rw[hcell];simp only[QX];simp(disch:=try exact ac)[Z4,Z1,e2]
   simp_all
  .have g3:=hx0 aa;simp(disch:=try exact ac)[dn,g5,lp',g1,g3,Z4,Z1,e1,e2,hli];refine ap8 (QY _) hcl aa ?_;rw[hcell];simp only[QX];simp(disch:=try exact ac)[Z4,Z1,e2]
   simp_all
theorem adw{l:LuQ}{L:Nat}(hl:l.length=N)(hL:L<=N):cvT (tH l) (.ref 0 1 0 L N N)=some (S (l.take L)):=by simp only[cvT,cellsOf,tH,aH];simp[hl,hL,<-List.map_take,BH]
def txS(p:LnQ)(i:Nat):LuQ:=if i<p.length then(co (val Z (p.take i)) (9*i)).reverse else(ag (val Z p)).reverse
theorem NB{p:LnQ}(hp:aw Z p)(hne:p≠[])(i:Nat)(hi:i<=p.length):(txS p i).length<=9*p.length:=by
 unfold txS;split
 .simp[aS];omega
 .have h1:=gr (B:=Z) aU hp;rw[uK]at h1;have:=cg h1 (by have:=Xq.2 hne;omega);simp[ag,aS];exact this
theorem QS{p:LnQ}(hp:aw Z p)(hn:uL p){i:Nat}(hi:i<p.length):
  ∃w,(i+1<p.length∧0+w=9∨¬i+1<p.length∧0+w<=9∧nth 0 p i<10^w∧(0<w->10^(w-1)<=nth 0 p i))∧txS p (i+1)=txS p i++(co (nth 0 p i) w).reverse:=by
 obtain⟨x,hx⟩:=mnQ (nth 0 p i);have hxZ:x<Z:=by rw[<-hx];exact hp.getD aU i
 have hv:=tw (B:=Z) p hi;rw[show p.getD i 0=x from hx]at hv;have hlow:=gr (B:=Z) aU (hp.take i);rw[Zm,Yy aa]at hlow;rw[uK]at hlow hv;obtain⟨r,hr⟩:=mnQ (val Z (p.take i));rw[hr]at hlow hv;rw[hx];by_cases hl:i+1<p.length
 .refine⟨9,.inl ⟨hl,rfl⟩,?_⟩;have hpp:0<10^(9*i):=Yq ae;rw[txS,if_pos hl,txS,if_pos hi,hr,hv,show 9*(i+1)=9+9*i by omega,sR,Yx _ _ hpp,Zh hlow,Zn,uB,List.reverse_append]
 .have hip:i+1=p.length:=aa
  have hx0:0<x:=by
   have hne:p≠[]:=fun e=>by rw[e]at hi;simp at hi
   have:=hn hne;rw[List.getLast_eq_getElem]at this;rw[<-hx,gj _ _ _ hi];have e:p.length-1=i:=aa;simp only[e]at this;omega
  refine⟨ndg x,.inr ⟨hl,?_,ci x,fun _=>AV x hx0⟩,?_⟩
  .have:ndg x<=9:=cg (by simp only[Z]at hxZ;omega) ae;omega
  .rw[txS,if_neg hl,txS,if_pos hi,hr]
   have hval:val Z p=r+10^(9*i)*x:=by
    have:p.take (i+1)=p:=Z0 aa;rw[<-hv,this]
   rw[hval,G7 hx0 hlow,List.reverse_append];rfl
theorem NF{p:LnQ}(hp:aw Z p)(hn:uL p)(hne:p≠[])(hpl:p.length<100000000)(k:KL)(h0:Hp)(hh:h0.length=3){N:Nat}(hN:N=9*p.length) :
  ∀(r i:Nat),i+r=p.length->k (.exit 0) [.ref 0 1 0 (txS p p.length).length N N] (tH (txS p p.length++List.replicate (N-(txS p p.length).length) 0)) ->
  lp (jq (CX Y) (lst u6 p) (lst u6 p) (I p.length)) [] h0 [.ref 0 1 0 (txS p i).length N N,I i] (tH (txS p i++List.replicate (N-(txS p i).length) 0)) k
 | 0,i=>by
  intro hi hk;have:i=p.length:=aa;subst this;refine ai ?_;simp[jq];exact hk
 | r+1,i=>by
  intro hi hk;have hil:i<p.length:=aa;obtain⟨w,hw,hst⟩:=QS hp hn hil;have ih:=NF hp hn hne hpl k h0 hh hN r (i+1) aa hk;have hlen2:=NB hp hne (i+1) aa;rw[hst]at ih hlen2;have hlw:(txS p i++(co (nth 0 p i) w).reverse).length=(txS p i).length+w:=by simp[aS]
  rw[hlw]at ih hlen2;have e1:=fun h:Hp=>qt u6 p h (k:=.i64) (i:=(i:Int)) aa aa
  have e2:=fun h:Hp=>Er p h (j:=i) hil
  simp only[Int.toNat_natCast]at e1;have hxZ:nth 0 p i<1000000000:=by have:=hp.getD aU i;simp only[Z]at this;exact this
  refine ai ?_;simp(disch:=try exact ac)[jq,e1,e2];refine lo (NE hil hpl aa _ _ rfl w 0 (nth 0 p i) (txS p i) hw hxZ aa ?_);simp(disch:=try exact ac)[hh];simpa using ih
theorem ik:ag 0=[48]:=by rw[ag,show ndg 0=1 by unfold ndg;simp];rfl
theorem xl{n:Nat}(hb:(dig Z n).length<100000000):CP Y F.aW [pcs n] (S (ag n)):=by
 refine vW ?_;obtain⟨p,hp⟩:=mnQ (dig Z n);have hs:aw Z p:=by rw[<-hp];exact aJ ah n
 have hno:uL p:=by rw[<-hp];exact pT ah n
 have hv:val Z p=n:=by rw[<-hp];exact bG ah n
 rw[pcs,hp];rw[hp]at hb;have lP:aj (lst u6 p)=some (I p.length):=rfl;by_cases hne:p=[]
 .subst hne;have:n=0:=by rw[<-hv];rfl
  subst this;simp[aW,lP];exact fw ik.symm
 .have hpos:=Xq.2 hne;obtain⟨N,hN⟩:=nmQ (9*p.length);have e9:(9:Int)*(p.length:Int)=(N:Int):=aa;have g1:¬((p.length:Int)=0):=aa;have g2:¬(p.length=0):=aa;have t0:txS p 0=[]:=by rw[txS,if_pos hpos];simp[co,val]
  have tl:txS p p.length=(ag n).reverse:=by rw[txS,if_neg aa,hv]
  have hln:=NB hs hne p.length (Z7 _);rw[tl,List.length_reverse]at hln;simp(disch:=try exact ac)[aW,lP,g1,g2,hne,e9];refine RN (e:=0) (b:=.none) rfl aa aa ?_;simp[lP]
  have hz:[(1,Bk.data 1 (List.replicate N (D.int IntKind.u8 0)) true false),nnQ,nnQ]=tH (txS p 0++List.replicate (N-(txS p 0).length) 0):=by
   rw[t0];simp[tH,u8]
  have main:=NF hs hno hne hb (exK [(.exit 0,fun l7 h=>
   cai (CX Y).i h (.fn F.bU [] []) [(ge l7 0)] 2 fun v8 h=>
   bnd (cvT h (ge l7 0)) fun v9=>
   out (S (ag n)) v9 h)]) (tH (txS p 0++List.replicate (N-(txS p 0).length) 0)) rfl hN p.length 0 aa (by
   simp only[fc,tl,List.length_reverse,iu];obtain⟨l,hl⟩:=mnQ ((ag n).reverse++List.replicate (N-(ag n).length) 0);have hll:l.length=N:=by rw[<-hl];simp;omega
   rw[hl];have rv:=U6 (h:=tH l) rfl (s:=0) (e:=1) (ex:=true) af (L:=(ag n).length) (cap:=N) (tot:=N) aa aa hll
   have hl2:(l.take (ag n).length).reverse++l.drop (ag n).length=ag n++List.replicate (N-(ag n).length) 0:=by
    rw[<-hl,Yo af,Wv af,List.reverse_reverse]
   rw[hl2]at rv;refine iG rv ?_ af
   show bnd (cvT (tH _) _) _
   rw[adw ak aa,Yo rfl];exact fw rfl)
  rw[t0]at main hz;rw[hz];exact main
theorem Hs(a b:LnQ)(hab:a.length=b.length)(hs:a.length<1000000000)(k:KL):∀i:Nat,i<=a.length->(yv a b i=0->k (.exit 0) [] [])->(yv a b i≠0->k .ret [I (yv a b i)] []) ->
  lp (dh (CX Y) (lst u6 a) (lst u6 b)) [] [] [I ((i:Int)-1)] [] k
 | 0,_,h0,_=>by
  refine ai ?_;simp[dh];exact h0 rfl
 | i+1,hi,h0,h1=>by
  have e1:=fun h:Hp=>qt u6 a h (k:=.i64) (i:=(i:Int)) aa aa
  have e2:=fun h:Hp=>Er a h (j:=i) aa
  have e3:=fun h:Hp=>qt u6 b h (k:=.i64) (i:=(i:Int)) aa aa
  have e4:=fun h:Hp=>Er b h (j:=i) aa
  simp only[Int.toNat_natCast]at e1 e3;obtain⟨x,hx⟩:=mnQ (nth 0 a i);obtain⟨y,hy⟩:=mnQ (nth 0 b i);rw[hx]at e2;rw[hy]at e4;simp only[yv,show a.getD i 0=x from hx,show b.getD i 0=y from hy]at h0 h1;have ei:((i+1:Nat):Int)-1=(i:Int):=aa;refine ai ?_;rw[ei];by_cases g1:x<y
  .have g1':(x:Int)<(y:Int):=aa;rw[if_pos g1]at h1;simp[dh,e1,e2,e3,e4,g1'];exact h1 ae
  .rw[if_neg g1]at h0 h1;have g1':¬(x:Int)<(y:Int):=aa;by_cases g2:y<x
   .have g2':(y:Int)<(x:Int):=aa;rw[if_pos g2]at h1;simp[dh,e1,e2,e3,e4,g1',g2'];exact h1 ae
   .have g2':¬(y:Int)<(x:Int):=aa;rw[if_neg g2]at h0 h1;have:=Hs a b hab hs k i aa h0 h1;simp(disch:=try exact ac)[dh,e1,e2,e3,e4,g1',g2'];simpa using this
theorem XM(ha:(dig Z a).length<1000000000)(hb:(dig Z b).length<1000000000):CP Y F.cN [pcs a,pcs b] (I (cmp a b)):=by
 refine tN ?_;have la:aj (pcs a)=some (I (dig Z a).length):=rfl;have lb:aj (pcs b)=some (I (dig Z b).length):=rfl;by_cases hl:(dig Z a).length=(dig Z b).length
 .have ho:=CN aU (aJ ah a) (aJ ah b) (dig Z a).length (Z7 _) aa;rw[Yb,hl,Yb,bG ah,bG ah,<-hl]at ho;have hli:((dig Z a).length:Int)=((dig Z b).length:Int):=aa;simp(disch:=try exact ac)[cN,la,lb,hl];refine lo (show lp _ _ _ _ _ _ from ?_);rw[<-hli]
  refine Hs (dig Z a) (dig Z b) hl ha _ _ (Z7 _) (fun h0=>?_) (fun h0=>?_)
  .simp only[fc];exact cF (by rw[<-ho,h0])
  .simp only[sJ,vj,iu];exact cF (by rw[ho])
 .have hli:¬((dig Z a).length:Int)=((dig Z b).length:Int):=aa;rcases Zf (dig Z a).length (dig Z b).length with h|h
  .have:=vp ah (m:=a) (n:=b) h;have e:cmp a b = -1:=by simp[cmp,this]
   have e2:mx2 false 1 (mx2 true (-1) (((dig Z a).length:Int)-((dig Z b).length:Int))) = -1:=by simp[mx2];omega
   simp(disch:=try exact ac)[cN,la,lb,hl,mxI,e2];exact cF (by rw[e])
  .have:=vp ah (m:=b) (n:=a) aa;have e:cmp a b=1:=by unfold cmp;rw[if_neg aa,if_pos this]
   have e2:mx2 false 1 (mx2 true (-1) (((dig Z a).length:Int)-((dig Z b).length:Int)))=1:=by simp[mx2];omega
   simp(disch:=try exact ac)[cN,la,lb,hl,mxI,e2];exact cF (by rw[e])
theorem BP(h:Hp)(l:LuQ):aP h (S l)=some (S l,h):=rfl
theorem OT{n:Nat}(h:ndg n<=d)(hd:d<90000000):(dig Z n).length<100000000:=by have h1:=ci n;have h2:n<Z^d:=Z3 h1 (by rw[uK];exact Z6 ae aa);have:=jp h2;omega
theorem Hk(hb:0<b)(ha:ndg a<1000000)(hbd:ndg b<1000000):CP Y F.gI [S (ag a),S (ag b)] (.tup [S (ag (a/b)),S (ag (a%b)),I 0]):=by
 refine Bq ?_
 have hne:¬ag b=[48]:=by
  rw[<-ik];intro e;have:=congrArg (c8 0) e;rw[fo,fo]at this;omega
 have hla:=OT (Xs ha) ae;have hlb:=OT (Xs hbd) ae;have bo:=Db a b;simp[gI,hne];by_cases h18:ndg a<=18∧ndg b<=18
 .rw[if_pos h18]at bo;have ha2:a<1000000000000000000:=by have:=ci a;have:=Z6 (n:=10) ae h18.1;omega
  refine cd bo ?_;obtain⟨q,hq⟩:=mnQ (a/b);obtain⟨r,hr⟩:=mnQ (a%b);have hqa:q<=a:=by rw[<-hq];exact Y5 ..
  have hra:r<=a:=by rw[<-hr];exact Nat.mod_le ..
  have e1:(a:Int)/(b:Int)=(q:Int):=by rw[<-hq];simp
  have e2:(a:Int)%(b:Int)=(r:Int):=by rw[<-hr];simp
  have hb0:¬((b:Int)=0):=aa;have hb0':¬(b=0):=aa;rw[hq,hr];simp(disch:=try exact ac)[hb0,hb0',Z1,Z4,e1,e2];refine cd (AT (n:=q) aa) ?_;simp[hb0,hb0',Z1,Z4,e1,e2];refine cd (AT (n:=r) aa) ?_;exact mA (BP _ _) (BP _ _) rfl
 .rw[if_neg h18]at bo;refine cd bo ?_;obtain⟨ca,hca⟩:=nmQ (ndg a/9+1);obtain⟨cb,hcb⟩:=nmQ (ndg b/9+1);have ltA:a<Z^ca:=Z3 (ci a) (by rw[uK];exact Z6 ae aa);have ltB:b<Z^cb:=Z3 (ci b) (by rw[uK];exact Z6 ae aa)
  have cA:=tR (h:=[nnQ,nnQ]) rfl (n:=a) aa hca;have lA:(bv ca a).length=ca:=c9 ..;have lB:(bv cb b).length=cb:=c9 ..;have cB:=tR (h:=[(1,.data 1 ((bv ca a).map u6) true false),nnQ]) rfl (n:=b) aa hcb;simp;refine dX (eU (e:=0) (b:=.none) cA rfl ?_);rw[Zd,lA];simp
  refine dX (eU (e:=0) (b:=.none) cB rfl ?_);rw[Zd,lB];simp;have sA:=wA (h:=[(1,.data 1 ((bv ca a).map u6) true false),(1,.data 1 ((bv cb b).map u6) true false)]) (s:=0) rfl lA.symm (len:=(dig Z a).length) (cap:=ca) (jp ltA) (Z7 _)
  have sB:=wA (h:=[(1,.data 1 ((bv ca a).map u6) true true),(1,.data 1 ((bv cb b).map u6) true false)]) (s:=1) rfl lB.symm (len:=(dig Z b).length) (cap:=cb) (jp ltB) (Z7 _);rw[og ltA]at sA;rw[og ltB]at sB;simp only[List.set_cons_zero,List.set_cons_succ]at sA sB
  have sAB:av [(1,.data 1 ((bv ca a).map u6) true false),(1,.data 1 ((bv cb b).map u6) true false)] [.ref 0 1 0 (dig Z a).length ca ca,.ref 1 1 0 (dig Z b).length cb cb]=some ([pcs a,pcs b],[(1,.data 1 ((bv ca a).map u6) true true),(1,.data 1 ((bv cb b).map u6) true true)]):=by
   simp only[av,sA,sB];rfl
  refine cdz sAB (XM (a:=a) (b:=b) aa aa) ?_;rw[show gh (I (cmp a b))=true from rfl,if_pos rfl];by_cases hab:a<b
  .have hc:cmp a b = -1:=by simp[cmp,hab]
   rw[Zh hab,Zj hab,ik];simp[hc];exact mA (BP _ _) (BP _ _) rfl
  .have hc:¬cmp a b<0:=by unfold cmp;rw[if_neg hab];split<;>decide
   have hlen:(dig Z b).length<=(dig Z a).length:=by
    rcases Zf (dig Z a).length (dig Z b).length with h|h
    .exact absurd (vp ah h) hab
    .exact h
   have lq:(dig Z (a/b)).length<100000000:=by
    have:a/b<=a:=Y5 ..;have:=jp (Zu this ltA);omega
   have lr:(dig Z (a%b)).length<100000000:=by
    have:a%b<=a:=Nat.mod_le ..;have:=jp (Zu this ltA);omega
   by_cases h1:(dig Z b).length=1
   .have hbZ:b<Z:=by have:=mg b;rw[h1,Wo]at this;exact this
    obtain⟨cb',hcb'⟩:∃c,cb=c+1:=⟨cb-1,aa⟩;have hn0:nth 0 (bv cb b) 0=b:=by rw[hcb',bv];simp[nth,Zj hbZ]
    have r1:=Co (h:=[(1,.data 1 ((bv ca a).map u6) true false),(1,.data 1 ((bv cb b).map u6) true false)]) (s:=1) rfl lB.symm (len:=1) (cap:=cb) (i:=0) aa aa .i64;have r2:=Iz (h:=[(1,.data 1 ((bv ca a).map u6) true false),(1,.data 1 ((bv cb b).map u6) true false)]) (s:=1) rfl lB.symm (j:=0) aa;rw[hn0]at r2
    have r1':ixV [(1,Bk.data 1 ((bv ca a).map u6) true false),(1,.data 1 ((bv cb b).map u6) true false)] 1 (.ref 1 1 0 1 cb cb) (I 0)=some (.ptr 1 1 0 cb):=r1;simp[hc,h1,r1',r2];refine cdz (ds:=[pcs a,U b]) (h':=[(1,.data 1 ((bv ca a).map u6) true true),(1,.data 1 ((bv cb b).map u6) true false)]) (by simp only[av,sA,yY];rfl) (Gz (a:=a) (n:=b) aa hb aa) ?_
    rw[show gh (.tup [pcs (a/b),U (a%b:Nat)])=false from rfl];simp;refine cd (args:=[pcs (a/b)]) (xl lq) ?_ (by simp[av,pcs]);simp;refine cd (AT (n:=a%b) (by have:=Zk a hb;simp only[Z]at hbZ;omega)) ?_;exact mA (BP _ _) (BP _ _) rfl
   ·have h0:(dig Z b).length≠0:=fun e=>by
     have:=mg b;rw[e]at this;simp at this;omega
    have h1i:¬((dig Z b).length:Int)=1:=aa;simp[hc,h1,h1i];refine cdz sAB (M9 (P:=a) (Q:=b) aa hlen (by have:=jp ltA;omega)) ?_;rw[show gh (.tup [pcs (a/b),pcs (a%b)])=false from rfl];simp;refine cd (args:=[pcs (a/b)]) (xl lq) ?_ (by simp[av,pcs]);simp;refine cd (args:=[pcs (a%b)]) (xl lr) ?_ (by simp[av,pcs])
    exact mA (BP _ _) (BP _ _) rfl
end Go.Vm
