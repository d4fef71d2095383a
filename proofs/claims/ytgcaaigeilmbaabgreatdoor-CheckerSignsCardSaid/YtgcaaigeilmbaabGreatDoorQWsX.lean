/- Lemmas. -/
import Derived.Test.YtgcaaigeilmbaabGreatDoorQCkShift
set_option linter.unusedVariables false
set_option linter.unusedSimpArgs false
namespace Go.Vm
open Go Go.Am Go.Big
variable{n w a b s e i k p off g:Nat}{z c:Int}{h:Hp}{l:List Bool}{ex fr:Bool}{A d:LnQ}
theorem Uy(h1:1<=w)(h2:w<=17)(hn:n<10^w):CP Y F.iD [S (45::co n w)] (.tup [I (-(n:Int)),.d (.pl .nilIface)]):=by
 refine uk ?_;have hl:=EW w n;have hlt:=C8 w n;have hh:=Ex w n hn;have he:=T0 n w;have hD:=IN w n;have hn17:n<10^17:=Z3 hn (Z6 ae h2);simp only[Nat.reducePow]at hn17;generalize co n w=L at *;generalize Bt n w=l at *;have hlen:L.length=w:=by rw[hD];simpa using hl
 have hi:ixS (S (45::L)) (.d (.int .i64 0))=some (.d (.int .u8 45)):=by simp[ixS]
 have hlw:ij (S (45::L))=some (I (w+1:Nat)):=by rw[Iy];simp[hlen]
 have hsl:slS (S (45::L)) (some (.d (.int .i64 1))) none=some (S L):=by
  have:(1:Int)<=(L.length:Int)+1:=aa;simp[slS,boV,this]
 have hl2:ij (S L)=some (I w):=by rw[Iy,hlen]
 simp(disch:=try exact ac)[iD,hlw,hi]
 have hcv:∀(k:kkQ),cvB (S L) [] k=k (lst f8 l) []:=by
  intro k
  have:V.d (.sl L.length (L.map fun b=>.int .u8 b.toNat))=lst f8 l:=by
   unfold lst;rw[hlen,hl,<-he];rfl
  simp only[cvB,this]
 refine dy (l:=[S L]) (h:=[]) (fun q=>?_) ?_
 .simp(disch:=try exact ac)[hsl,hl2]
 show cvB (S L) [] _
 rw[hcv];simp;refine lo (Jb _ _ rfl l [] 0 ak hlt af ?_);simp[hi,hh];refine dy (l:=[I (-(n:Int))]) (h:=[]) (fun q=>?_) ?_
 .simp(disch:=try exact ac)[hh]
 exact⟨[],by simp[aP,av,norm]⟩
theorem Ux(h1:1<=w)(h2:w<=17)(hn:n<10^w):CP Y F.strconv_Atoi [S (45::co n w)] (.tup [I (-(n:Int)),.d (.pl .nilIface)]):=by refine wz ?_;simp[strconv_Atoi];refine cd (Uy h1 h2 hn) ?_;simp[MG];exact⟨[],by simp[aP,av,norm]⟩
def sdg(z:Int):Nat:=ndg z.natAbs+if z<0 then 1 else 0
theorem KO(z:Int):ij (S (itoa z))=some (I (sdg z)):=by
 rw[Iy];unfold itoa sdg;split
 .simp[ag,aS]
 .simp[ag,aS]
theorem LS(h:sdg z<=18):CP Y F.strconv_Atoi [S (itoa z)] (.tup [I z,.d (.pl .nilIface)]):=by
 unfold sdg at h;by_cases hz:z<0
 .rw[if_pos hz]at h;have:=Ux (n:=z.natAbs) (w:=ndg z.natAbs) (k8 _) aa (ci _);rw[show(-(z.natAbs:Int))=z by omega]at this;unfold itoa;rw[if_pos hz];exact this
 .rw[if_neg hz]at h;have:=De (n:=z.natAbs) (w:=ndg z.natAbs) (k8 _) aa (ci _);rw[show((z.natAbs:Nat):Int)=z by omega]at this;unfold itoa;rw[if_neg hz];exact this
theorem si(z:Int)(w:Nat)(hw:w<=18):CP Y F.bF [S (itoa z),I w] (if sdg z<=w then .tup [I z,B true]else .tup [I 0,B false]):=by
 refine rT ?_;have la:=KO z;by_cases h:(w:Int)<sdg z
 .rw[if_neg aa];simp[bF,la,h];exact eX rfl rfl
 .rw[if_pos aa];have ap:=LS (z:=z) aa;have en:biF .eql (.d (.pl .nilIface)) (.d (.pl .nilIface))=some (.d (.bool true)):=rfl;simp[bF,la,h];refine cd (args:=[S (itoa z)]) ap ?_;simp[en];exact eX rfl rfl
theorem El(z:Int):CP Y F.gV [S (itoa z)] (if sdg z<=9 then .tup [I z,B true]else .tup [I 0,B false]):=by
 refine zO ?_;have la:=KO z;by_cases h:(9:Int)<sdg z
 .rw[if_neg aa];simp[gV,la,h];exact eX rfl rfl
 .rw[if_pos aa];have ap:=LS (z:=z) aa;have en:biF .eql (.d (.pl .nilIface)) (.d (.pl .nilIface))=some (.d (.bool true)):=rfl;simp[gV,la,h];refine cd (args:=[S (itoa z)]) ap ?_;simp[en];exact eX rfl rfl
theorem w5(z:Int):rdN (itoa z)=decide (z<0):=by
 unfold itoa;split
 .rename_i h;simp[rdN,h]
 .rename_i h;have:=qO z.natAbs;unfold rdN;rw[decide_eq_false this,decide_eq_false h]
theorem rN(z:Int):CP Y F.ba [S (itoa z)] (.tup [B (decide (z<0)),S (ag z.natAbs)]):=by have h:=rW (itoa z);rw[w5,pN]at h;exact h
theorem nZ(h:ag a=ag b):a=b:=by
 have:=congrArg (c8 0) h
 rwa [fo,fo]at this
theorem KT{a b:Int}(h:itoa a=itoa b):a=b:=by
 have h1:=congrArg rdT h;have h2:=congrArg rdN h;rw[pN,pN]at h1;rw[w5,w5]at h2;have h3:=nZ h1;have h4:(a<0)↔(b<0):=by simpa using h2
 omega
theorem qE:ag n=[48]↔n=0:=by
 constructor
 .intro h;exact nZ (a:=n) (b:=0) (h.trans ik.symm)
 .rintro rfl;exact ik
def sg(b:Bool)(n:Nat):Int:=if b then -(n:Int)else n
theorem nJ(b:Bool)(hn9:ndg n<1000000):CP Y F.cO [B b,S (ag n)] (S (itoa (sg b n))):=by
 refine yT ?_;cases b with
 | false=>
  have:itoa (sg false n)=ag n:=by simp[sg,itoa]
  rw[this];simp[cO]<;>exact fw rfl
 | true=>
  by_cases hn:n=0
  .subst hn;have e0:itoa (sg true 0)=[48]:=ik;simp[cO,ik]<;>exact fw e0.symm
  .have h0:¬ag n=[48]:=fun h=>hn (qE.1 h)
   have:itoa (sg true n)=45::ag n:=by
    unfold itoa sg;rw[if_pos rfl,if_pos aa];simp
   rw[this];have hl:(ag n).length=ndg n:=aS _ _;have ha:biS .add (.d (.str [45])) (S (ag n))=some (S (45::ag n)):=XW [45] (ag n) (by rw[hl];simp;omega);simp[cO,h0,ha]<;>exact fw rfl
theorem Om(hz:ndg z.natAbs<1000000):CP Y F.qg [S (itoa z)] (S (itoa (-z))):=by
 refine Jn ?_;simp[qg];refine cd (rN z) ?_;simp;have:=nJ (!decide (z<0)) hz
 have e:sg (!decide (z<0)) z.natAbs = -z:=by
  unfold sg;by_cases h:z<0
  .simp[h];omega
  .simp[h];omega
 rw[e]at this;refine cd this ?_;exact fw rfl
def cj(n:Nat):Nat:=(dig Z n).length
theorem C9:cj n=ndg n/9+1∨cj n+1=ndg n/9+1:=by
 unfold cj;have h1:(dig Z n).length<=ndg n/9+1:=(gZ ah).2 (Z3 (ci n) (by rw[uK];exact Z6 ae aa))
 have h2:ndg n<=9*(dig Z n).length∨n=0:=by
  rcases Zl n with h|h
  .omega
  .left;have h3:n<Z^(dig Z n).length:=(gZ ah).1 (Z7 _);rw[uK]at h3;refine cg h3 ?_;rcases Zl (dig Z n).length with h4|h4
   .grind
   .omega
 rcases h2 with h2|rfl
 .omega
 .have:ndg 0=1:=b9;omega
theorem Io(n:Nat):n<Z^cj n:=(gZ ah).1 (Z7 _)
theorem zQ(n:Nat):bv (cj n) n=dig Z n:=by
 have:=og (Io n)
 rwa [Z0 (by rw[c9];exact Z7 _)]at this
theorem zP{c:Nat}(h:cj n+1=c):bv c n=dig Z n++[0]:=by rw[<-h,Bf (Io n),zQ]
theorem O4{s t n c:Nat}{h:Hp}{q:kkQ}{u:PU q}(hst:s≠t)(hg:h[s]?=some (1,.data 1 ((bv c n).map u6) true false))(ht:h[t]?=some nnQ)(hL:cj n=c∨cj n+1=c)(hc:c<1000000)
  (hq:∀s' e' ex h',h'.length=h.length->h'[s']?=some (e',.data 1 ((dig Z n++[0]).map u6) ex false)->(s'=s∨s'=t)->(∀j,j≠s'->h'[j]?=h[j]?)->q (.ref s' e' 0 (cj n+1) (cj n+1) (cj n+1)) h') :
  rh (apV false t 1 8 (.ref s 1 0 (cj n) c c) (.d (.sl 1 [u6 0])) h) q u:=by
 have hl:=bO hg;have hl2:=bO ht;rcases hL with hL|hL
 .subst hL;rw[zQ]at hg;refine O3 hg ht rfl aa ?_;exact hq t 1 false _ af (by grind) (.inr rfl) (fun j hj=>by rw[List.getElem?_set_ne (Ne.symm hj)])
 .rw[zP hL]at hg;have hlen:(dig Z n).length=cj n:=rfl;refine Nq (x:=0) hg (by grind) aa ?_;rw[<-hL];refine hq s 1 true _ af ?_ (.inl rfl) (fun j hj=>by rw[List.getElem?_set_ne (Ne.symm hj)])
  have e1:(dig Z n++[0]).take (cj n)++[0]++(dig Z n++[0]).drop (cj n+1)=dig Z n++[0]:=by
   rw[<-hlen,Wp,Zv af,Yj]
  grind
theorem O2{s t n c k:Nat}{h:Hp}{q:kkQ}{u:PU q}(hst:s≠t)(hg:h[s]?=some (1,.data 1 ((bv c n).map u6) true false))(ht:h[t]?=some nnQ)(hL:cj n=c∨cj n+1=c)(hc:c+k<1000000)
  (hq:∀t1 s' h',h'.length=h.length->(s'=s∨s'=t)->(∀j,j≠s'->h'[j]?=h[j]?)->(∃(e':Nat)(l:LnQ)(ex:Bool),h'[s']?=some (e',.data 1 (l.map u6) ex false)) ->
   (∀P:Hp->Prop,(∀g,P g->g[s']?=h'[s']?)->RdS P t1 (dig Z n++List.replicate k 0))->q t1 h') :
  rh (apZ false t 1 8 [.int .u64 0] (.ref s 1 0 (cj n) c c) (I (k:Nat)) h) q u:=by
 have hl:=bO hg;have hl2:=bO ht;have hlen:(dig Z n).length=cj n:=rfl;unfold rh apZ;simp only;rw[if_pos ⟨aa,aa⟩];unfold apC;simp only[Int.toNat_natCast]
 have rdOf:∀{s' e' len cap tot:Nat}{l:LnQ}{ex:Bool}{h':Hp},h'[s']?=some (e',.data 1 (l.map u6) ex false)->tot=l.length->len<=tot->l.take len=dig Z n++List.replicate k 0 ->
   ∀P:Hp->Prop,(∀g,P g->g[s']?=h'[s']?)->RdS P (.ref s' e' 0 len cap tot) (dig Z n++List.replicate k 0):=by
  intro s' e' len cap tot l ex h' hg' htot hle htk P hP;refine⟨?_,fun g i hg2 hi=>?_⟩
  .have:(dig Z n++List.replicate k 0).length=len:=by rw[<-htk,Zm];omega
   simp_all
  .have:=(Di (h:=g) (cap:=cap) ((hP g hg2).trans hg') htot hle).2 [] i (by grind)
   grind
 by_cases hk:k=0
 .rw[if_pos hk,if_pos aa];subst hk;refine hq _ s h rfl (.inl rfl) (fun _ _=>rfl) ⟨_,_,_,hg⟩ ?_;refine rdOf hg (c9 ..).symm aa ?_;rw[List.replicate_zero,Yj];rcases hL with hL|hL
  .rw[<-hL,zQ,<-hlen,Yb]
  .rw[zP hL,<-hlen,Wp]
 .rw[if_neg hk,U8];simp only[gX hg];rw[if_pos ⟨trivial,by simp[c9],aa,by simp[c9],af⟩];by_cases hin:cj n+k<=c
  .rw[if_pos hin];have hk1:k=1:=aa;subst hk1;have hL2:cj n+1=c:=aa;simp only[Bool.or_self,Zi,if_false,cK]
   have e1:((bv c n).map u6).take (0+cj n*1)++(List.replicate 1 0).map u6++((bv c n).map u6).drop (0+(cj n+1)*1)=(dig Z n++[0]).map u6:=by
    rw[zP hL2,Zn,Zn,Y0,Y0,<-hlen];simp[<-List.map_take,<-List.map_drop]
   rw[e1];refine hq _ s _ af (.inl rfl) (fun j hj=>by rw[List.getElem?_set_ne (Ne.symm hj)]) ⟨1,dig Z n++[0],true,by grind⟩ ?_;refine rdOf (l:=dig Z n++[0]) (ex:=true) (by grind) (by grind) aa ?_
   grind
  .rw[if_neg hin,if_pos aa];simp only[if_true,new,ht]
   have e1:(((bv c n).map u6).drop 0).take (cj n*1)++(List.replicate k 0).map u6=(dig Z n++List.replicate k 0).map u6:=by
    rw[Yp,Y0,<-List.map_take,List.map_append];congr 2;rcases hL with hL|hL
    .rw[<-hL,zQ,<-hlen,Yb]
    .rw[zP hL,<-hlen,Wp]
   rw[e1];have e2:cj n*1+((List.replicate k 0).map u6).length=cj n+k:=af;rw[e2];refine hq _ t _ af (.inr rfl) (fun j hj=>by rw[List.getElem?_set_ne (Ne.symm hj)]) ⟨1,dig Z n++List.replicate k 0,false,by grind⟩ ?_;refine rdOf (l:=dig Z n++List.replicate k 0) (ex:=false) (by grind) (by grind) aa ?_
   grind[Z0]
def NV(h:Hp):Prop:=∀(j:Nat)(x:Nat×Bk),h[j]?=some x->∀b,aT b x.2=true
theorem NV.all{h:Hp}(hn:NV h)(b:Nat):(h.all fun x=>aT b x.2)=true:=by rw[Zq];intro x hx;obtain⟨j,hj⟩:=Ws.1 hx;exact hn j x hj b
theorem NV.upd{h':Hp}(hn:NV h){l:LnQ}(hs:h'[s]?=some (e,.data 1 (l.map u6) ex fr))(ho:∀j,j≠s->h'[j]?=h[j]?):NV h':=by
 intro j x hj b;by_cases e1:j=s
 .subst e1;rw[hs]at hj;cases hj;rfl
 .rw[ho j e1]at hj;exact hn j x hj b
theorem Rf{α:Type}{l:List α}{x:α}(h:l[i]?=some x):l.set i x=l:=by
 apply Xr;intro j;by_cases e:i=j
 .grind
 .rw[List.getElem?_set_ne e]
theorem NS{l:LnQ}(hs:h[s]?=some (e,.data 1 (l.map u6) ex false)):sP h s e ex l=h:=Rf hs
theorem Gu{h:Hp}{s e n m:Nat}{ex:Bool}{L:LnQ}{w:V}(hn:NV h)(hlt:s<h.length)(h3:L.length=n)(b1:val Z L=m)(b2:aw Z L)(hm:n<1000000)(kk:V->V)(hkk:∀h':Hp,out w (kk (S (ag m))) h'){sl:Nat} :
  cai (CX Y).i (sP h s e ex L) (V.fn F.aI [] []) [.ref s e 0 n n n] sl fun v22 h=>
    cal (CX Y).p h (V.fn F.aW [] []) [v22] fun v23 h=>out w (kk v23) h:=by
 have nv:NV (sP h s e ex L):=hn.upd (sd hlt) (fun j hj=>by grind[sP]);have tr:=tY (h:=sP h s e ex L) (nv.all _) (s:=s) (e:=e) (ex:=ex) (fr:=false) (sd hlt) h3.symm (len:=n) (cap:=n) (Z7 _) aa (Z7 _);have ht:gS (L.take n)=dig Z m:=by rw[Z0 aa,<-b1,oS ah b2]
 rw[ht]at tr;refine iG tr ?_ af;have lt:m<Z^n:=by rw[<-b1,<-h3];exact gr aU b2
 have hl:(dig Z m).length<=n:=(gZ ah).2 lt;have sM:=wA (h:=sP h s e ex L) (s:=s) (e:=e) (ex:=ex) (fr:=false) (sd hlt) h3.symm (len:=(dig Z m).length) (cap:=n) hl (Z7 _)
 have ht2:L.take (dig Z m).length=dig Z m:=by
  have e:gS L=dig Z m:=by rw[<-ht,Z0 aa]
  obtain⟨z,hz⟩:=Gp L;rw[e]at hz;rw[hz];exact Wp ..
 rw[ht2]at sM;refine cdz (u:=.mk) (by simp only[av,sM];rfl) (xl (n:=m) aa) ?_
 grind
theorem EY(ha:ndg a<1000000)(hb:ndg b<1000000):CP Y F.iF [S (ag a),S (ag b)] (S (ag (a+b))):=by
 refine Gb ?_;have bo:=Db a b;by_cases h18:ndg a<=18∧ndg b<=18
 .rw[if_pos h18]at bo;have g3:10^ndg a<=10^18:=Z6 ae h18.1;have g4:10^ndg b<=10^18:=Z6 ae h18.2;have b1:a<1000000000000000000:=Z3 (ci a) g3;have b2:b<1000000000000000000:=Z3 (ci b) g4;simp[iF];refine cd bo ?_;obtain⟨m,hm⟩:=mnQ (a+b);have em:(a:Int)+(b:Int)=(m:Int):=aa
  rw[hm];simp(disch:=try exact ac)[em];refine cd (AT (n:=m) aa) ?_;exact fw rfl
 rw[if_neg h18]at bo;obtain⟨ca,hca⟩:=nmQ (ndg a/9+1);obtain⟨cb,hcb⟩:=nmQ (ndg b/9+1);have cA:=tR (h:=[nnQ,nnQ,nnQ,nnQ,nnQ,nnQ]) rfl (n:=a) aa hca;have cB:=tR (h:=[(1,.data 1 ((bv ca a).map u6) true false),nnQ,nnQ,nnQ,nnQ,nnQ]) rfl (n:=b) aa hcb
 have LA:cj a=ca∨cj a+1=ca:=by rw[hca];exact C9
 have LB:cj b=cb∨cj b+1=cb:=by rw[hcb];exact C9
 have hli:∀h:Hp,fj 1 [D.int .u64 0] [(0,V.d (D.int .u64 0))] h=some ([u6 0],h):=fun h=>by rfl
 have main:∀(p q cp cq sp sq:Nat)(h:Hp),p+q=a+b->cj q<=cj p->cp<200000->cq<200000->(cj p=cp∨cj p+1=cp)->(cj q=cq∨cj q+1=cq)->sp<2->sq<2->sp≠sq->h.length=6->NV h ->
   h[sp]?=some (1,.data 1 ((bv cp p).map u6) true false)->h[sq]?=some (1,.data 1 ((bv cq q).map u6) true false)->h[2]?=some nnQ->h[3]?=some nnQ ->
   apV false 2 1 8 (.ref sp 1 0 (cj p) cp cp) (.d (.sl 1 [u6 0])) h fun v15 h=>
   bnd (aj v15) fun v16=>
   bnd (biI .sub v16 (.d (.int .i64 1))) fun v17=>
   bnd (aj (.ref sq 1 0 (cj q) cq cq)) fun v18=>
   bnd (biI .sub v17 v18) fun v19=>
   apZ false 3 1 8 [.int .u64 0] (.ref sq 1 0 (cj q) cq cq) v19 h fun v20 h=>
   cai (CX Y).i h (.fn F.cT [] []) [v15,v20,(.d (.int .i64 0))] 4 fun v21 h=>
   cai (CX Y).i h (.fn F.aI [] []) [v15] 5 fun v22 h=>
   cal (CX Y).p h (.fn F.aW [] []) [v22] fun v23 h=>
   out (S (ag (a+b))) v23 h:=by
  intro p q cp cq sp sq h hpq hle hcp hcq LP LQ hsp hsq hne hlen hnv gp gq g2 g3;refine O4 (u:=.mk) (t:=2) aa gp g2 LP aa fun s' e' ex h1 l1 gs' hs' o1=>?_
  obtain⟨k,hk⟩:=nmQ (cj p-cj q);have e1:(cj p:Int)+1-1-(cj q:Int)=(k:Int):=aa;have hr1:aj (.ref s' e' 0 (cj p+1) (cj p+1) (cj p+1))=some (I (cj p+1:Nat)):=rfl;have hr2:aj (.ref sq 1 0 (cj q) cq cq)=some (I (cj q:Nat)):=rfl
  have hb1:biI .sub (I ((cj p+1:Nat):Int)) (.d (.int .i64 1))=some (I (cj p)):=by
   rw[xK,show(((cj p+1:Nat):Int)-1)=(cj p:Int) by omega,pu aa aa]
  have hb2:biI .sub (I (cj p:Int)) (I (cj q:Int))=some (I k):=by
   rw[xK,show((cj p:Int)-(cj q:Int))=(k:Int) by omega,pu aa aa]
  simp only[hr1,hr2,hb1,hb2,bnd];have nv1:=hnv.upd gs' o1;have hqs:sq≠s':=by rcases hs' with rfl|rfl<;>omega
  have h3s:3≠s':=by rcases hs' with rfl|rfl<;>omega
  refine O2 (u:=.mk) (t:=3) aa ((o1 sq hqs).trans gq) ((o1 3 h3s).trans g3) LQ aa fun t1 s2 h2 l2 hs2 o2 ⟨e2,l2',ex2,g2'⟩ rd=>?_
  have nv2:=nv1.upd g2' o2;have hss:s'≠s2:=by rcases hs2 with rfl|rfl<;>omega
  have gs2:h2[s']?=some (e',.data 1 ((dig Z p++[0]).map u6) ex false):=(o2 s' hss).trans gs';have lt2:s'<h2.length:=bO gs2;have hdl:(dig Z q++List.replicate k 0).length=cj p:=by simp only[Zo,Yn];show cj q+k=_;omega
  have sD:aw Z (dig Z q++List.replicate k 0):=rO (aJ ah q) (qj _);have vD:val Z (dig Z q++List.replicate k 0)=q:=by rw[uO,bG ah]
  have rdS:=rd (fun t=>∃l,t=sP h2 s' e' ex l) (fun g ⟨l,hg⟩=>by grind[sP]);obtain⟨c1,c2,c3⟩:=Uu (n:=cj p) rfl hdl (aJ ah p) sD (bG ah p) vD;have bk:=LR (at_:=0) (tot:=cj p+1) (l:=dig Z p++[0]) (ex:=ex) (e:=e') (s:=s') (h:=h2) (nv2.all _) lt2 rdS sD aa aa (by simp[cj]) (rO (aJ ah p) (qj 1))
  rw[NS gs2]at bk;refine iG bk ?_ af;rw[hpq]at c1;exact Gu nv2 lt2 c3 c1 c2 aa (fun v=>v) (fun _=>fw rfl)
 simp[iF];refine cd bo ?_;simp;refine dX (eU (e:=0) (b:=.none) cA rfl ?_);rw[Zd,c9];simp;refine dX (eU (e:=0) (b:=.none) cB rfl ?_);rw[Zd,c9]
 have nv:NV [(1,.data 1 ((bv ca a).map u6) true false),(1,.data 1 ((bv cb b).map u6) true false),nnQ,nnQ,nnQ,nnQ]:=by
  intro j x hj b';rcases Ws.2 ⟨j,hj⟩with hm;simp only[Zc,Yc,or_false]at hm;rcases hm with rfl|rfl|rfl|rfl|rfl|rfl<;>rfl
 by_cases g1:((dig Z a).length:Int)<((dig Z b).length:Int)
 .simp[g1];refine aE ?_;simp[hli];exact main b a cb ca 1 0 _ aa (by grind[cj]) aa aa LB LA aa aa aa rfl nv rfl rfl rfl rfl
 .simp[g1];refine aE ?_;simp[hli];exact main a b ca cb 0 1 _ rfl (by grind[cj]) aa aa LA LB aa aa aa rfl nv rfl rfl rfl rfl
theorem G3:∀(s t:LuQ)(c:Nat),s.length=t.length->s.all oL=true->t.all oL=true->Op.bytesLess s t=decide (c8 c s<c8 c t)
 |[],[],c,_,_,_=>by simp[Op.bytesLess]
 | x::s,y::t,c,hl,hs,ht=>by
  simp only[List.length_cons,Nat.add_right_cancel_iff]at hl;simp only[List.all_cons,Z8]at hs ht;have hx:=jM.1 hs.1;have hy:=jM.1 ht.1
  have key:∀(s t:LuQ)(u v:Nat),s.length=t.length->s.all oL=true->u<v->c8 u s<c8 v t:=by
   intro s t u v hl hs h;have h1:=ul s u hs;have h2:=zL t v;rw[<-hl]at h2;have h3:(u+1)*10^s.length<=v*10^s.length:=Zx _ h;omega
  rw[iZ,iZ];have ex:x<y↔x.toNat<y.toNat:=UInt8.lt_iff_toNat_lt;have ey:y<x↔y.toNat<x.toNat:=UInt8.lt_iff_toNat_lt;rcases Nat.lt_trichotomy x.toNat y.toNat with h|h|h
  .have:=key s t (c*10+(x.toNat-48)) (c*10+(y.toNat-48)) hl hs.2 aa
   grind[Op.bytesLess]
  .have e:x=y:=UInt8.toNat_inj.1 h;subst e;rw[<-G3 s t _ hl hs.2 ht.2];simp[Op.bytesLess]
  .have:=key t s (c*10+(y.toNat-48)) (c*10+(x.toNat-48)) hl.symm ht.2 aa;rw[decide_eq_false aa]
   grind[Op.bytesLess]
theorem G8(n:Nat):(ag n).all oL=true:=xc _ _
theorem G2(h:ndg a=ndg b):Op.bytesLess (ag a) (ag b)=decide (a<b):=by rw[G3 (ag a) (ag b) 0 (by rw[ag,ag,aS,aS,h]) (G8 _) (G8 _),fo,fo]
theorem Sy(h:ndg a<ndg b):a<b:=by
 rcases Zf a b with g|g
 .exact g
 .have:=mC g;omega
theorem Nc(h:a<b):Big.cmp a b = -1:=if_pos h
theorem Nf(h:b<a):Big.cmp a b=1:=(if_neg aa).trans (if_pos h)
theorem cmp_eq:Big.cmp a a=0:=(if_neg aa).trans (if_neg aa)
theorem xJ(ha:ndg a<1000000)(hb:ndg b<1000000):CP Y F.cL [S (ag a),S (ag b)] (I (Big.cmp a b)):=by
 refine Ag ?_;have la:=mM a;have lb:=mM b;by_cases hl:ndg a=ndg b
 .have h1:=G2 hl;have h2:=G2 hl.symm;have e1:biS .lss (S (ag a)) (S (ag b))=some (.d (.bool (decide (a<b)))):=by rw[<-h1];rfl
  have e2:biS .gtr (S (ag a)) (S (ag b))=some (.d (.bool (decide (b<a)))):=by
   have h3:(ag a == ag b)=decide (a=b):=by
    rw[Ym];simp only[beq_iff_eq,decide_eq_true_eq];exact⟨nZ,fun h=>by rw[h]⟩
   have h4:decide (b<a) = !(decide (a<b)||decide (a=b)):=by
    rw[Ym];simp only[decide_eq_true_eq,Yu,Bool.or_eq_false_iff,decide_eq_false_iff_not];omega
   rw[h4,<-h1,<-h3];rfl
  rw[hl]at la;by_cases g1:a<b
  .simp[cL,la,lb,e1,e2,g1]
   grind[cF,Nc]
  .by_cases g2:b<a
   .simp[cL,la,lb,e1,e2,g1,g2]
    grind[cF,Nf]
   .simp[cL,la,lb,e1,e2,g1,g2];have:a=b:=aa
    grind[cF,cmp_eq]
 .have hne:¬((ndg a:Int)=(ndg b:Int)):=aa;rcases Zf (ndg a) (ndg b)with h|h
  .have h3:=Sy h;have m1:mxI true [.d (.int .i64 (-1)),I ((ndg a:Int)-ndg b)]=some (I (-1)):=by simp[mxI,mx2];omega
   have m2:mxI false [.d (.int .i64 1),I (-1)]=some (I (-1)):=rfl;simp(disch:=try exact ac)[cL,la,lb,hne,m1,m2]
   grind[cF,Nc]
  .have h3:b<a:=Sy aa;have m1:mxI true [.d (.int .i64 (-1)),I ((ndg a:Int)-ndg b)]=some (I ((ndg a:Int)-ndg b)):=by simp[mxI,mx2];omega
   have m2:mxI false [.d (.int .i64 1),I ((ndg a:Int)-ndg b)]=some (I 1):=by simp[mxI,mx2];omega
   simp(disch:=try exact ac)[cL,la,lb,hne,m1,m2]
   grind[cF,Nf]
theorem Ki:1<Z:=ah
theorem QW{D:LnQ}(hA:A.length=n)(hD:D.length=n)(sA:aw Z A)(sD:aw Z D)(va:val Z A=a)(vb:val Z D=b)(hba:b<=a):
  val Z (jz 1 0 D (D.length+1) 0 0 0 (A++[0])).2=a-b∧aw Z (jz 1 0 D (D.length+1) 0 0 0 (A++[0])).2∧(jz 1 0 D (D.length+1) 0 0 0 (A++[0])).2.length=n+1:=by
 have sA0:aw Z (A++[0]):=rO sA (qj 1);have l2:=gr aU sD;rw[vb,hD]at l2
 obtain ⟨h1,h2,h3,h4⟩:=Dy (g:=1) (at_:=0) Ki sD (D.length+1) 0 0 0 (A++[0]) ak aU (Yk _) sA0 (by
  rw[Yp,vb,hD,Ye,Zn,Nat.pow_succ];exact Z3 l2 (Yw _ aU))
 have e2:val Z (A++[0])=a:=by rw[show([0]:LnQ)=List.replicate 1 0 from rfl,uO,va]
 have hl:(jz 1 0 D (D.length+1) 0 0 0 (A++[0])).2.length=n+1:=by rw[h1.1];simp[hA]
 refine⟨?_,h2,hl⟩;have h5:=gr aU h2;rw[hl]at h5;rw[e2,Yp,vb,hD]at h4;rw[hD]at h3 h5 ⊢;generalize val Z (jz 1 0 D (n+1) 0 0 0 (A++[0])).2=x at *;generalize(jz 1 0 D (n+1) 0 0 0 (A++[0])).1=c at *;simp only[Zn,Nat.add_zero,Nat.pow_zero,Ye]at h4;rcases Zl c with h|h
 .subst h;omega
 .have:c=1:=aa;subst this;rw[Y0]at h4;omega
theorem Bs(hba:b<=a)(ha:ndg a<1000000):CP Y F.jC [S (ag a),S (ag b)] (.tup [S (ag (a-b)),I 0]):=by
 have hb:ndg b<1000000:=Zu (mC hba) ha;refine F6 ?_;have bo:=Db a b;have dc:=xJ ha hb
 have hc:¬Big.cmp a b<0:=by
  unfold Big.cmp;rw[if_neg aa];split<;>omega
 have hc2:(-1:Int)<=Big.cmp a b∧Big.cmp a b<=1:=by
  unfold Big.cmp;split
  .omega
  .split<;>omega
 generalize Big.cmp a b=cc at *;simp[jC];refine cd dc ?_;simp[hc];by_cases h18:ndg a<=18∧ndg b<=18
 .rw[if_pos h18]at bo;have g3:10^ndg a<=10^18:=Z6 ae h18.1;have b1:a<1000000000000000000:=Z3 (ci a) g3;refine cd bo ?_;obtain⟨m,hm⟩:=mnQ (a-b);have em:(a:Int)-(b:Int)=(m:Int):=aa;rw[hm];simp(disch:=try exact ac)[em];refine cd (AT (n:=m) aa) ?_;exact eX rfl rfl
 rw[if_neg h18]at bo;obtain⟨ca,hca⟩:=nmQ (ndg a/9+1);obtain⟨cb,hcb⟩:=nmQ (ndg b/9+1);have cA:=tR (h:=[nnQ,nnQ,nnQ,nnQ,nnQ,nnQ,nnQ]) rfl (n:=a) aa hca;have LA:cj a=ca∨cj a+1=ca:=by rw[hca];exact C9
 have LB:cj b=cb∨cj b+1=cb:=by rw[hcb];exact C9
 have hle:cj b<=cj a:=(gZ ah).2 (Zu hba (Io a));have hli:∀h:Hp,fj 1 [D.int .u64 0] [(0,V.d (D.int .u64 0))] h=some ([u6 0],h):=fun h=>by simp[fj,fS,hO,toD,u6]
 refine cd bo ?_;simp;refine dX (eU (e:=0) (b:=.none) cA rfl ?_);rw[Zd,c9];simp[hli]
 have nv:NV [(1,.data 1 ((bv ca a).map u6) true false),nnQ,nnQ,nnQ,nnQ,nnQ,nnQ]:=by
  intro j x hj b';rcases Ws.2 ⟨j,hj⟩with hm;simp only[Zc,Yc,or_false]at hm;rcases hm with rfl|rfl|rfl|rfl|rfl|rfl|rfl<;>rfl
 refine O4 (s:=0) (t:=1) (n:=a) (c:=ca) aa rfl rfl LA aa fun s1 e1 ex1 h1 l1 g1 hs1 o1=>?_
 have nv1:=nv.upd g1 o1;have k1:∀j,2<=j->h1[j]?=([(1,.data 1 ((bv ca a).map u6) true false),nnQ,nnQ,nnQ,nnQ,nnQ,nnQ]:Hp)[j]?:=fun j hj=>o1 j aa
 have hr1:aj (.ref s1 e1 0 (cj a+1) (cj a+1) (cj a+1))=some (I (cj a+1:Nat)):=rfl
 have hb1:biI .sub (I ((cj a+1:Nat):Int)) (.d (.int .i64 1))=some (I (cj a)):=by
  rw[xK,show(((cj a+1:Nat):Int)-1)=(cj a:Int) by omega,pu aa aa]
 -- the second number,twice
 have cB:=tR (h:=h1) (nv1.all _) (n:=b) aa hcb;refine dX (u:=.mk) (eU (e:=0) (b:=.none) cB (k1 2 aa) ?_);rw[Zd,c9];have l2:(h1.set 2 (1,.data 1 ((bv cb b).map u6) true false)).length=7:=by simp[l1]
 have n2:(2:Nat)<h1.length:=by rw[l1];simp
 have g2:(h1.set 2 (1,.data 1 ((bv cb b).map u6) true false))[2]?=some (1,.data 1 ((bv cb b).map u6) true false):=by simp[n2]
 have o2:∀j,j≠2->(h1.set 2 (1,.data 1 ((bv cb b).map u6) true false))[j]?=h1[j]?:=fun j hj=>by rw[List.getElem?_set_ne (Ne.symm hj)]
 have nv2:=nv1.upd g2 o2;generalize h1.set 2 (1,.data 1 ((bv cb b).map u6) true false)=h2 at *
 show bnd (aj (.ref s1 e1 0 (cj a+1) (cj a+1) (cj a+1))) _
 simp only[hr1,hb1,bnd];have cB2:=tR (h:=h2) (nv2.all _) (n:=b) aa hcb;refine dX (u:=.mk) (eU (e:=0) (b:=.none) cB2 ((o2 3 ae).trans (k1 3 aa)) ?_);rw[Zd,c9];have n3:(3:Nat)<h2.length:=by rw[l2];simp
 have g3:(h2.set 3 (1,.data 1 ((bv cb b).map u6) true false))[3]?=some (1,.data 1 ((bv cb b).map u6) true false):=by simp[n3]
 have o3:∀j,j≠3->(h2.set 3 (1,.data 1 ((bv cb b).map u6) true false))[j]?=h2[j]?:=fun j hj=>by rw[List.getElem?_set_ne (Ne.symm hj)]
 have nv3:=nv2.upd g3 o3;generalize h2.set 3 (1,.data 1 ((bv cb b).map u6) true false)=h3 at *;obtain⟨k,hk⟩:=nmQ (cj a-cj b);have hr2:aj (.ref 3 (0+1) 0 (cj b) cb cb)=some (I (cj b:Nat)):=rfl
 have hb2:biI .sub (I (cj a:Int)) (I (cj b:Int))=some (I k):=by
  rw[xK,show((cj a:Int)-(cj b:Int))=(k:Int) by omega,pu aa aa]
 simp only[show aj (V.ref 3 (0+1) 0 (dig Z b).length cb cb)=some (I (cj b:Nat))from rfl,hb2];have q2:h3[2]?=some (1,.data 1 ((bv cb b).map u6) true false):=(o3 2 ae).trans g2;have q4:h3[4]?=some nnQ:=((o3 4 ae).trans (o2 4 ae)).trans (k1 4 aa)
 refine O2 (u:=.mk) (s:=2) (t:=4) aa q2 q4 LB aa fun t1 s4 h4 l4 hs4 o4 ⟨e4,l4',ex4,g4⟩ rd=>?_
 have nv4:=nv3.upd g4 o4;have hss:s1≠s4:=by rcases hs1 with rfl|rfl<;>rcases hs4 with rfl|rfl<;>omega
 have h12:s1≠2∧s1≠3:=by rcases hs1 with rfl|rfl<;>omega
 have gs:h4[s1]?=some (e1,.data 1 ((dig Z a++[0]).map u6) ex1 false):=(((o4 s1 hss).trans (o3 s1 h12.2)).trans (o2 s1 h12.1)).trans g1;have lt4:=bO gs;have hdl:(dig Z b++List.replicate k 0).length=cj a:=by simp only[Zo,Yn];show cj b+k=_;omega
 have sD:aw Z (dig Z b++List.replicate k 0):=rO (aJ ah b) (qj _);have vD:val Z (dig Z b++List.replicate k 0)=b:=by rw[uO,bG ah]
 have rdS:=rd (fun t=>∃l,t=sP h4 s1 e1 ex1 l) (fun g ⟨l,hg⟩=>by rw[hg];unfold sP;rw[List.getElem?_set_ne hss]);obtain⟨c1,c2,c3⟩:=QW (n:=cj a) rfl hdl (aJ ah a) sD (bG ah a) vD hba
 have bk:=JG (g:=1) (at_:=0) (tot:=cj a+1) (l:=dig Z a++[0]) (ex:=ex1) (e:=e1) (s:=s1) (h:=h4) (nv4.all _) lt4 rdS sD Ki (by rw[hdl];omega) aa (by simp[cj]) (rO (aJ ah a) (qj 1));rw[NS gs]at bk;refine dX (u:=.mk) (iG bk ?_ af);exact Gu nv4 lt4 c3 c1 c2 aa (fun v=>.tup [v,I 0]) (fun _=>eX rfl rfl)
theorem uV(h:sdg z<=w):z.natAbs<10^w:=by
 have:ndg z.natAbs<=w:=by unfold sdg at h;omega
 exact Z3 (ci _) (Z6 ae this)
theorem wS(h1 : -9223372036854775808<z)(h2:z<9223372036854775808):CP Y F.gn [I z] (S (itoa z)):=by refine Dk ?_;simp[gn];refine cd (xD h1 h2) ?_;exact fw rfl
theorem Ii(ha:ndg a<=k)(hb:ndg b<=k):ndg (a+b)<=k+1:=by have h1:a<10^k:=Z3 (ci a) (Z6 ae ha);have h2:b<10^k:=Z3 (ci b) (Z6 ae hb);exact cg (by rw[Nat.pow_succ];omega) aa
theorem UD{w:Int}(hz:ndg z.natAbs<999999)(hw:ndg w.natAbs<999999): 
  cal (CX Y).p [] (.fn F.ba [] []) [S (itoa z)] fun v6 h=>
  ext v6 0 fun v7=>
  ext v6 1 fun v8=>
  cal (CX Y).p h (.fn F.ba [] []) [S (itoa w)] fun v9 h=>
  ext v9 0 fun v10=>
  ext v9 1 fun v11=>
  bnd (biB .eql v7 v10) fun v12=>
  cnd v12 (
   cal (CX Y).p h (.fn F.iF [] []) [v8,v11] fun v13 h=>
   cal (CX Y).p h (.fn F.cO [] []) [v7,v13] fun v14 h=>
   out (S (itoa (z+w))) v14 h) (
   cal (CX Y).p h (.fn F.cL [] []) [v8,v11] fun v15 h=>
   bnd (biI .lss v15 (.d (.int .i64 0))) fun v16=>
   jn (fun l17 h=>
    cal (CX Y).p h (.fn F.jC [] []) [(ge l17 1),(ge l17 2)] fun v19 h=>
    ext v19 0 fun v20=>
    ext v19 1 fun v21=>
    cal (CX Y).p h (.fn F.cO [] []) [(ge l17 0),v20] fun v22 h=>
    out (S (itoa (z+w))) v22 h) fun q18=>
    cnd v16 (
     q18 [v10,v11,v8] h) (
     q18 [v7,v8,v11] h)):=by
 simp;refine cd (rN z) ?_;simp;refine cd (rN w) ?_;have eb:biB .eql (B (decide (z<0))) (B (decide (w<0)))=some (B (decide (z<0) == decide (w<0))):=rfl;simp[eb];by_cases hs:(z<0↔w<0)
 .simp[hs];refine cd (EY (a:=z.natAbs) (b:=w.natAbs) aa aa) ?_;simp;have hk:ndg (z.natAbs+w.natAbs)<=999999:=Ii aa aa;refine cd (nJ (decide (z<0)) (n:=z.natAbs+w.natAbs) aa) ?_;refine fw ?_;congr 1;unfold sg;by_cases h:z<0
  .simp[h];omega
  .simp[h];omega
 .simp[hs];refine cd (xJ (a:=z.natAbs) (b:=w.natAbs) aa aa) ?_;simp;by_cases hlt:z.natAbs<w.natAbs
  .have hc:Big.cmp z.natAbs w.natAbs<0:=by rw[Nc hlt];decide
   refine dy (l:=[B (decide (w<0)),S (ag w.natAbs),S (ag z.natAbs)]) (h:=[]) (fun q=>by simp[hc]) ?_;simp;refine cd (Bs (a:=w.natAbs) (b:=z.natAbs) aa aa) ?_;simp;refine cd (nJ (decide (w<0)) (n:=w.natAbs-z.natAbs) (Zu (mC (Nat.sub_le ..)) aa)) ?_;refine fw ?_;congr 1;unfold sg;by_cases h:w<0
   .simp[h];omega
   .simp[h];omega
  ·have hc:¬Big.cmp z.natAbs w.natAbs<0:=by
    rcases Nat.eq_or_lt_of_not_lt hlt with h|h
    .rw[h,cmp_eq];decide
    .rw[Nf h];decide
   refine dy (l:=[B (decide (z<0)),S (ag z.natAbs),S (ag w.natAbs)]) (h:=[]) (fun q=>by simp[hc]) ?_;simp;refine cd (Bs (a:=z.natAbs) (b:=w.natAbs) aa aa) ?_;simp;refine cd (nJ (decide (z<0)) (n:=z.natAbs-w.natAbs) (Zu (mC (Nat.sub_le ..)) aa)) ?_;refine fw ?_;congr 1;unfold sg;by_cases h:z<0
   .simp[h];omega
   .simp[h];omega
theorem Dq{w:Int}(hz:ndg z.natAbs<999999)(hw:ndg w.natAbs<999999):CP Y F.j6 [S (itoa z),S (itoa w)] (S (itoa (z+w))):=by
 refine Jq ?_;have l1:=si z 18 ae;have l2:=si w 18 ae;have tl:=UD hz hw;simp[j6];refine cd l1 ?_;by_cases h1:sdg z<=18
 .rw[if_pos h1];simp;by_cases h2:sdg w<=18
  .rw[if_pos h2]at l2;refine aE ?_;simp;refine cd l2 ?_;have b1:=uV h1;have b2:=uV h2;simp only[Nat.reducePow]at b1 b2;obtain⟨m,hm⟩:=mnQ (z+w);rw[hm];simp(disch:=try exact ac)[hm];refine cd (wS (z:=m) aa aa) ?_;exact fw rfl
  .rw[if_neg h2]at l2;refine aE ?_;simp;refine cd l2 ?_;simp;simpa using tl
 .rw[if_neg h1];simp;refine aE ?_;simp;simpa using tl
theorem wn{w:Int}(hz:ndg z.natAbs<400000)(hw:ndg w.natAbs<400000):CP Y F.cW [S (itoa z),S (itoa w)] (S (itoa (z*w))):=by
 refine Jo ?_;have l1:=si z 9 ae;have l2:=si w 9 ae;have dm:=Qv (a:=z.natAbs) (b:=w.natAbs) aa aa
 have hk:ndg (z.natAbs*w.natAbs)<1000000:=by
  have h1:=ci z.natAbs;have h2:=ci w.natAbs;have h3:z.natAbs*w.natAbs<10^(ndg z.natAbs+ndg w.natAbs):=by rw[Zr];exact Y6 h1 h2
  have:=cg h3 (by have:=k8 z.natAbs;omega);omega
 have e:sg (decide (z<0) !=decide (w<0)) (z.natAbs*w.natAbs)=z*w:=by
  unfold sg;by_cases h1:z<0<;>by_cases h2:w<0
  .simp[h1,h2];rw[Xj aa,Xj aa,Int.neg_mul_neg]
  .simp[h1,h2];rw[Xj aa,Wn aa,Int.neg_mul,Int.neg_neg]
  .simp[h1,h2];rw[Wn aa,Xj aa,Int.mul_neg,Int.neg_neg]
  .simp[h1,h2];rw[Wn aa,Wn aa]
 have eb:biB .neq (B (decide (z<0))) (B (decide (w<0)))=some (B (decide (z<0) !=decide (w<0))):=rfl;have jo:=nJ (decide (z<0) !=decide (w<0)) hk;rw[e]at jo
 have tail:∀u:Unit,cal (CX Y).p [] (.fn F.ba [] []) [S (itoa z)] fun v6 h=>
  ext v6 0 fun v7=>
  ext v6 1 fun v8=>
  cal (CX Y).p h (.fn F.ba [] []) [S (itoa w)] fun v9 h=>
  ext v9 0 fun v10=>
  ext v9 1 fun v11=>
  bnd (biB .neq v7 v10) fun v12=>
  cal (CX Y).p h (.fn F.lY [] []) [v8,v11] fun v13 h=>
  cal (CX Y).p h (.fn F.cO [] []) [v12,v13] fun v14 h=>
  out (S (itoa (z*w))) v14 h:=by
  intro _;simp;refine cd (rN z) ?_;simp;refine cd (rN w) ?_;simp[eb];refine cd dm ?_;simp;refine cd jo ?_;exact fw rfl
 simp[cW];refine cd l1 ?_;by_cases h1:sdg z<=9
 .rw[if_pos h1];simp;by_cases h2:sdg w<=9
  .rw[if_pos h2]at l2;refine aE ?_;simp;refine cd l2 ?_;have b1:=uV h1;have b2:=uV h2
   have hmb:(z*w).natAbs<1000000000000000000:=by
    rw[Y3];exact Y6 b1 b2
   obtain⟨m,hm⟩:=mnQ (z*w);rw[hm]at hmb ⊢;simp(disch:=try exact ac)[hm];refine cd (wS (z:=m) aa aa) ?_;exact fw rfl
  .rw[if_neg h2]at l2;refine aE ?_;simp;refine cd l2 ?_;simp;simpa using tail ()
 .rw[if_neg h1];simp;refine aE ?_;simp;simpa using tail ()
theorem iC(n:Nat):itoa (n:Int)=ag n:=by rfl
theorem ES(hb:0<b):(-(a:Int))/(b:Int)=(if a%b=0 then -((a/b:Nat):Int)else -((a/b+1:Nat):Int))∧(-(a:Int))%(b:Int)=(if a%b=0 then 0 else((b-a%b:Nat):Int)):=by
 have h1:=Zb a b;have h2:=Zk a hb;have hbz:(b:Int)>0:=aa;generalize a%b=r at *;generalize a/b=q at *;by_cases h:r=0
 .subst h;simp only[if_true]
  have e:(-(a:Int))=(b:Int)*(-(q:Int)):=by
   rw[Int.mul_neg,<-Int.natCast_mul];congr 1;omega
  rw[e];exact⟨Int.mul_ediv_cancel_left _ aa,Int.mul_emod_right _ _⟩
 .simp only[if_neg h]
  have e:(-(a:Int))=((b-r:Nat):Int)+(b:Int)*(-((q+1:Nat):Int)):=by
   have:(a:Int)=(b:Int)*q+r:=by rw[<-Int.natCast_mul];omega
   rw[this,Int.mul_neg,Int.natCast_add,Int.mul_add];have:((b-r:Nat):Int)=(b:Int)-r:=aa;omega
  have l1:(0:Int)<=((b-r:Nat):Int):=aa;have l2:((b-r:Nat):Int)<(b:Int):=aa;rw[e];constructor
  .rw[Int.add_mul_ediv_left _ _ aa,Int.ediv_eq_zero_of_lt l1 l2,Int.zero_add]
  .rw[Int.add_mul_emod_self_left,Int.emod_eq_of_lt l1 l2]
theorem Oq:ndg 1=1:=b9
theorem xx{a b a' b':LuQ}(e1:a'=a)(e2:b'=b):out (.tup [S a,S b,I c]) (.tup [S a',S b',I c]) h:=by simp_all[mA]
theorem WW(hb:0<b)(hz:ndg z.natAbs<900000)(hbd:ndg b<900000):
   cal (CX Y).p [] (.fn F.ba [] []) [S (itoa z)] fun v7 h=>
   ext v7 0 fun v8=>
   ext v7 1 fun v9=>
   cal (CX Y).p h (.fn F.ba [] []) [S (ag b)] fun v10 h=>
   ext v10 0 fun v11=>
   ext v10 1 fun v12=>
   cal (CX Y).p h (.fn F.gI [] []) [v9,v12] fun v13 h=>
   ext v13 0 fun v14=>
   ext v13 1 fun v15=>
   ext v13 2 fun v16=>
   bnd (biI .neq v16 (.d (.int .i64 0))) fun v17=>
   cnd v17 (
    out (.tup [S (itoa (z/b)),S (itoa (z%b)),I 0]) (.tup [(.d (.str [])),(.d (.str [])),v16]) h) (
    bnd (biB .neq v8 v11) fun v18=>
    gd v18 true h (fun q=>q v15 h) fun v19 h=>
    gd v18 true h (fun q=>bnd (biS .neq v19 (.d (.str [48]))) fun v=>q v h) fun v20 h=>
    bnd (aA v18 v20 (.d (.bool false))) fun v21=>
    jn (fun l22 h=>
     bnd (biB .neq v8 v11) fun v24=>
     cal (CX Y).p h (.fn F.cO [] []) [v24,(ge l22 0)] fun v25 h=>
     cal (CX Y).p h (.fn F.cO [] []) [v11,(ge l22 1)] fun v26 h=>
     out (.tup [S (itoa (z/b)),S (itoa (z%b)),I 0]) (.tup [v25,v26,(.d (.int .i64 0))]) h) fun q23=>
     cnd v21 (
      cal (CX Y).p h (.fn F.iF [] []) [v14,(.d (.str [49]))] fun v27 h=>
      cal (CX Y).p h (.fn F.jC [] []) [v12,v15] fun v28 h=>
      ext v28 0 fun v29=>
      ext v28 1 fun v30=>
      q23 [v27,v29] h) (
      q23 [v14,v15] h)):=by
 have hq:ndg (z.natAbs/b)<=ndg z.natAbs:=mC (Y5 ..);have hr:z.natAbs%b<b:=Zk _ hb;have hr2:ndg (z.natAbs%b)<=ndg b:=mC aa
 have eb:biB .neq (B (decide (z<0))) (B false)=some (B (decide (z<0))):=by
  show some (B (decide (z<0) !=false))=_
  rw[Bool.bne_false]
 simp;refine cd (rN z) ?_;simp;refine cd (Gx b) ?_;simp;refine cd (Hk (a:=z.natAbs) hb aa aa) ?_;by_cases hneg:z<0
 .have ez:z = -(z.natAbs:Int):=aa;obtain⟨d1,d2⟩:=ES (a:=z.natAbs) hb;rw[<-ez]at d1 d2;rw[decide_eq_true hneg]at eb ⊢;by_cases h0:z.natAbs%b=0
  .rw[if_pos h0]at d1 d2;rw[h0,ik];simp[eb];refine dy (l:=[S (ag (z.natAbs/b)),S [48]]) (h:=[]) (fun q=>by simp) ?_;simp[eb];refine cd (nJ true (n:=z.natAbs/b) aa) ?_;simp;have j0:=nJ false (n:=0) (by grind);rw[ik]at j0;refine cd j0 ?_;refine xx ?_ ?_
   .rw[d1];rfl
   .rw[d2];rfl
  .rw[if_neg h0]at d1 d2;have h48:¬ag (z.natAbs%b)=[48]:=fun h=>h0 (qE.1 h)
   have ad:=EY (a:=z.natAbs/b) (b:=1) aa (by simp[Oq]);rw[show ag 1=[49] by decide+kernel]at ad;simp[eb,h48];refine aE ?_;simp[h48];refine cd ad ?_;simp;refine cd (Bs (a:=b) (b:=z.natAbs%b) aa aa) ?_;simp[eb];have hq1:ndg (z.natAbs/b+1)<=900000+1:=Ii aa (by simp[Oq])
   refine cd (nJ true (n:=z.natAbs/b+1) aa) ?_;simp;refine cd (nJ false (n:=b-z.natAbs%b) (Zu (mC (Nat.sub_le ..)) aa)) ?_;refine xx ?_ ?_
   .rw[d1];rfl
   .rw[d2];rfl
 .rw[decide_eq_false hneg]at eb ⊢;simp[eb];refine dy (l:=[S (ag (z.natAbs/b)),S (ag (z.natAbs%b))]) (h:=[]) (fun q=>by simp) ?_;simp[eb];refine cd (nJ false (n:=z.natAbs/b) aa) ?_;simp;refine cd (nJ false (n:=z.natAbs%b) aa) ?_;have ez:z=(z.natAbs:Int):=aa;refine xx ?_ ?_
  .rw[ez,<-Int.natCast_ediv];rfl
  .rw[ez,<-Int.natCast_emod];rfl
theorem Dp(hb:0<b)(hz:ndg z.natAbs<900000)(hbd:ndg b<900000):CP Y F.fE [S (itoa z),S (ag b)] (.tup [S (itoa (z/b)),S (itoa (z%b)),I 0]):=by
 refine Dm ?_;have l1:=si z 18 ae;have l2:=MQ b 18 ae;have tl:=WW hb hz hbd;have h48:¬ag b=[48]:=fun h=>by grind[qE]
 simp[fE,h48];refine cd l1 ?_;by_cases h1:sdg z<=18
 .rw[if_pos h1];by_cases h2:ndg b<=18
  .rw[if_pos h2]at l2;simp;refine aE ?_;simp;refine cd l2 ?_;have b1:=uV h1;have b2:b<10^18:=Z3 (ci b) (Z6 ae h2);simp only[Nat.reducePow]at b1 b2;have hbz:¬(b:Int)=0:=aa;obtain⟨n,hn⟩:=nmQ (z.natAbs);rw[<-hn]at b1;have hq:n/b<=n:=Y5 ..;have hr:n%b<b:=Zk _ hb;by_cases hneg:z<0
   .have ez:z = -(n:Int):=aa;obtain⟨d1,d2⟩:=ES (a:=n) hb;rw[<-ez]at d1 d2;have q1:z.tdiv (b:Int) = -((n/b:Nat):Int):=by rw[ez,Int.neg_tdiv,Z1 aa,<-Int.natCast_ediv]
    have q2:z.tmod (b:Int) = -((n%b:Nat):Int):=by rw[ez,Int.neg_tmod,Z4 aa,<-Int.natCast_emod]
    obtain⟨q,hqq⟩:=nmQ (n/b);obtain⟨r,hrr⟩:=nmQ (n%b);rw[<-hqq]at q1 d1 hq;rw[<-hrr]at q2 d1 d2 hr;by_cases h0:r=0
    .rw[if_pos h0]at d1 d2;rw[h0]at q2;simp(disch:=try exact ac)[q1,q2];refine dy (l:=[I (-(q:Int)),I 0]) (h:=[]) (fun q=>by simp) ?_;simp;refine cd (wS (z:=-(q:Int)) aa aa) ?_;simp;refine cd (wS (z:=0) aa aa) ?_;refine xx ?_ ?_
     .rw[d1]
     .rw[d2]
    .rw[if_neg h0]at d1 d2;have r0:¬(-(r:Int))=0:=aa;have r1:(-(r:Int))<0:=aa;have r2:¬(b:Int)<0:=aa;have eb:∀x y:Bool,biB .neq (B x) (B y)=some (B (x !=y)):=fun _ _=>rfl
     simp(disch:=try exact ac)[q1,q2,r0,r1,r2,eb];refine dy (l:=[I (-(q:Int)-1),I (-(r:Int)+b)]) (h:=[]) (fun q=>by simp(disch:=try exact ac)[r0,r1,r2]) ?_;simp;refine cd (wS (z:=-(q:Int)-1) aa aa) ?_;simp;refine cd (wS (z:=-(r:Int)+b) aa aa) ?_
     grind[xx]
   .have ez:z=(n:Int):=aa;have q1:z.tdiv (b:Int)=((n/b:Nat):Int):=by rw[ez,Z1 aa,<-Int.natCast_ediv]
    have q2:z.tmod (b:Int)=((n%b:Nat):Int):=by rw[ez,Z4 aa,<-Int.natCast_emod]
    have d1:z/(b:Int)=((n/b:Nat):Int):=by rw[ez,<-Int.natCast_ediv]
    have d2:z%(b:Int)=((n%b:Nat):Int):=by rw[ez,<-Int.natCast_emod]
    obtain⟨q,hqq⟩:=nmQ (n/b);obtain⟨r,hrr⟩:=nmQ (n%b);rw[<-hqq]at q1 d1 hq;rw[<-hrr]at q2 d2 hr;have r1:¬((r:Int))<0:=aa;have r2:¬(b:Int)<0:=aa;have eb:∀x y:Bool,biB .neq (B x) (B y)=some (B (x !=y)):=fun _ _=>rfl
    have fin:∀h:Hp,cal (CX Y).p h (V.fn F.gn [] []) [I q] fun v45 h=>
      cal (CX Y).p h (V.fn F.gn [] []) [I r] fun v46 h=>out (V.tup [S (itoa (z/(b:Int))),S (itoa (z%(b:Int))),I 0]) (V.tup [v45,v46,V.d (D.int IntKind.i64 0)]) h:=by
     intro h;simp;refine cd (wS (z:=q) aa aa) ?_;simp;refine cd (wS (z:=r) aa aa) ?_;refine xx ?_ ?_
     .rw[d1]
     .rw[d2]
    by_cases h0:r=0
    .rw[h0]at q2 fin;simp(disch:=try exact ac)[q1,q2];refine dy (l:=[I q,I 0]) (h:=[]) (fun q=>by simp) ?_;exact fin []
    .have r0:¬(r:Int)=0:=aa;simp(disch:=try exact ac)[q1,q2,r0,r1,r2,eb];refine dy (l:=[I q,I r]) (h:=[]) (fun q=>by simp[r0,r1,r2]) ?_;exact fin []
  .rw[if_neg h2]at l2;simp;refine aE ?_;simp;refine cd l2 ?_;simp;trivial
 .rw[if_neg h1];simp;refine aE ?_;simp;trivial
def RdN(s:Nat)(h:Hp)(v:V)(d:LnQ):Prop:=∀h':Hp,h'.length=h.length->(∀j,j≠s->h'[j]?=h[j]?)->RdP h' v d∧∃h2,aP h' v=some (lst u6 d,h2)
theorem RdN.now{v:V}(r:RdN s h v d):RdP h v d:=(r h rfl fun _ _=>rfl).1
theorem RdN.step{h2:Hp}{v:V}(r:RdN s h v d)(hl:h2.length=h.length)(hs:∀j,j≠s->h2[j]?=h[j]?):RdN s h2 v d:=
 fun h' h1 h3=>r h' (h1.trans hl) fun j hj=>(h3 j hj).trans (hs j hj)
theorem RdN.new{s t e N m:Nat}{h:Hp}(hst:s≠t)(hg:h[t]?=some (e,.data 1 ((bv N m).map u6) true false))(hm:m<Z^N):RdN s h (.ref t e 0 (dig Z m).length N N) (dig Z m):=fun h' hl ho=>by
 have:=Di (h:=h') (cap:=N) ((ho t (Ne.symm hst)).trans hg) (c9 ..).symm (jp hm);rw[og hm]at this;have sn:=wA (h:=h') ((ho t (Ne.symm hst)).trans hg) (c9 ..).symm (len:=(dig Z m).length) (cap:=N) (jp hm) (Z7 _);rw[og hm]at sn;exact⟨this,_,sn⟩
theorem and_one{n:Int}(h0:0<=n)(h1:n<9223372036854775808):biI .and (I n) (I 1)=some (I (n%2)):=by
 obtain⟨m,rfl⟩:∃m:Nat,n=m:=⟨n.toNat,aa⟩
 have hb:(BitVec.ofInt 64 (m:Int)&&&BitVec.ofInt 64 1).toNat=m%2:=by
  rw[BitVec.toNat_and]
  have e1:(BitVec.ofInt 64 (m:Int)).toNat=m:=by
   rw[BitVec.toNat_ofInt];omega
  have e2:(BitVec.ofInt 64 (1:Int)).toNat=1:=ae;rw[e1,e2,Nat.and_one_is_mod]
 simp only[biI,iX,ne_eq,not_true_eq_false,if_false,mB,kA]
 show some (V.d (.int .i64 (IntKind.wrap .i64 ((BitVec.ofInt 64 (m:Int)&&&BitVec.ofInt 64 1).toNat:Int))))=_
 rw[hb,pu aa aa];rfl
theorem Sb(k:KL):∀(n A Bv:Nat)(o p:V)(h:Hp)(R:Nat),A*Bv^n=R->0<A->0<Bv->R<Z^2000->n<100000->h.length=3->NV h->RdN 2 h o (dig Z A)->RdN 1 h p (dig Z Bv) ->
  (∀o' h' h2,h'.length=3->aP h' o'=some (lst u6 (dig Z R),h2)->NV h'->k (.exit 1) [o'] h')->∀h0:Hp,h0.length=3->lp (lJ (CX Y)) [] h0 [o,p,I n] h k:=by
 intro n
 induction n using Nat.strongRecOn with
 | ind n ih=>
  intro A Bv o p h R hR hA hB hlim hn hlen hnv ro rp hk h0 hl0;refine ai ?_;by_cases hz:n=0
  .subst hz;simp[lJ];rw[Nat.pow_zero,Y0]at hR;subst hR;obtain⟨h2,hs2⟩:=(ro h rfl fun _ _=>rfl).2;exact hk o h h2 hlen hs2 hnv
  have hpos:(n:Int)>0:=aa
  have hBR:Bv<=R:=by
   rw[<-hR];exact Zs (Nat.le_of_eq (Wo Bv).symm) (Zs (Z6 hB aa) (Nat.le_mul_of_pos_left _ hA))
  have hAR:A<=R:=by rw[<-hR];exact Yw _ (Yq hB)
  have dA:(dig Z A).length<=2000:=jp aa;have dB:(dig Z Bv).length<=2000:=jp aa;have and1:=and_one (n:=(n:Int)) aa aa;have e2:((n:Int)/2^(1:Int).toNat)=((n/2:Nat):Int):=af
  have sh:biI .shr (I n) (.d (.int .u64 1))=some (I (n/2:Nat)):=by
   rw[U4 aa aa,e2]
  have hn2:n/2<n:=aa
  -- what a product gives
  have times:∀(h:Hp)(v w:V)(a b s:Nat),h.length=3->NV h->s<3->RdP h v (dig Z a)->RdP h w (dig Z b)->(dig Z a).length<=2000->(dig Z b).length<=2000->∀q:kkQ,
    (∀o' h',h'.length=3->NV h'->(∀j,j≠s->h'[j]?=h[j]?)->(∀t,t≠s->RdN t h' o' (dig Z (a*b)))->q o' h')->cai (CX Y).i h (V.fn F.bC [] []) [v,w] s q:=by
   intro h v w a b s hl hv hs r1 r2 d1 d2 q hq;obtain⟨N,hN⟩:=nmQ ((dig Z a).length+(dig Z b).length);have tk:=Ay (h:=h) (hv.all _) r1 (aJ ah a) r2 (aJ ah b) aa aa hN;rw[bG ah,bG ah]at tk;have hs3:s<h.length:=aa;have hm:a*b<Z^N:=by rw[hN,Zr];exact Y6 (mg a) (mg b)
   refine eU (e:=h[s].1) (b:=h[s].2) tk (List.getElem?_eq_getElem hs3) ?_;rw[Zd,c9];have gs:(h.set s (h[s].1+1,.data 1 ((bv N (a*b)).map u6) true false))[s]?=some (h[s].1+1,.data 1 ((bv N (a*b)).map u6) true false):=by simp[hs3]
   have os:∀j,j≠s->(h.set s (h[s].1+1,.data 1 ((bv N (a*b)).map u6) true false))[j]?=h[j]?:=fun j hj=>by rw[List.getElem?_set_ne (Ne.symm hj)]
   exact hq _ _ (by simp[hl]) (hv.upd gs os) os (fun t ht=>RdN.new ht gs hm)
  have fin:∀(A' B':Nat)(o' p':V)(h':Hp),A'*B'^(n/2)=R->0<A'->0<B'->h'.length=3->NV h'->RdN 2 h' o' (dig Z A')->RdN 1 h' p' (dig Z B')->rl (lp (lJ (CX Y)) [] h0 [o',p',I ((n:Int)/2)] h') k .mk:=by
   intro A' B' o' p' h' e1 e2 e3 e4 e5 e6 e7;rw[show((n:Int)/2)=((n/2:Nat):Int) by omega];exact ih (n/2) hn2 A' B' o' p' h' R e1 e2 e3 hlim aa e4 e5 e6 e7 hk h0 hl0
  have hdm:=Zb n 2;simp(disch:=try exact ac)[lJ,hpos];refine aE ?_;simp[and1];by_cases hod:(n:Int)%2=1
  .have hod':n%2=1:=aa
   have eR:A*Bv*(Bv*Bv)^(n/2)=R:=by
    rw[<-hR]
    conv=>rhs;rw[<-hdm,hod',Zr,Xc,Wo]
    rw[Nat.pow_two,Nat.mul_assoc,Zw Bv]
   refine aE ?_;simp[hod];refine dX (times h o p A Bv 1 hlen hnv aa ro.now rp.now dA dB _ fun o' h' l1 v1 s1 r1=>?_);have rp1:=rp.step (l1.trans hlen.symm) s1;have ro1:=r1 2 aa;simp;refine aE ?_;by_cases h1:(n:Int)>1
   .simp[h1];refine dX (times h' p p Bv Bv 2 l1 v1 aa rp1.now rp1.now dB dB _ fun p' h'' l2 v2 s2 r2=>?_);have ro2:=ro1.step (l2.trans l1.symm) s2;simp(disch:=try exact ac)[sh];exact fin _ _ o' p' h'' eR (Y4 hA hB) (Y4 hB hB) l2 v2 ro2 (r2 1 aa)
   .have hn1:n=1:=aa;simp(disch:=try exact ac)[h1,sh];refine fin (A*Bv) Bv o' p h' ?_ (Y4 hA hB) hB l1 v1 ro1 rp1;rw[<-eR];subst hn1;simp
  .have hod':n%2=0:=aa
   have eR:A*(Bv*Bv)^(n/2)=R:=by
    rw[<-hR]
    conv=>rhs;rw[<-hdm,hod',Nat.add_zero,Xc]
    rw[Nat.pow_two]
   refine aE ?_;simp[hod];refine aE ?_;have h1:(n:Int)>1:=aa;simp[h1];refine dX (times h p p Bv Bv 2 hlen hnv aa rp.now rp.now dB dB _ fun p' h'' l2 v2 s2 r2=>?_);have ro2:=ro.step (l2.trans hlen.symm) s2;simp(disch:=try exact ac)[sh];exact fin _ _ o p' h'' eR hA (Y4 hB hB) l2 v2 ro2 (r2 1 aa)
theorem A8:ag 2=[50]:=b9
theorem pB:ag 1=[49]:=b9
theorem Ur:CP Y F.oh [S [50]] (I 2):=by refine EV ?_;have h:=AF (n:=2) aa;rw[A8]at h;have h2:=Eo (n:=2) aa;rw[show eY 2=2 by rfl]at h2;simp[oh];refine cd h ?_;simp;refine cd h2 ?_;simp
theorem QT{K:Nat}(h:n/3+1<=K):2^n<10^K:=by
 have h1:2^n=8^(n/3)*2^(n%3):=by
  rw[show(8:Nat)=2^3 from rfl,<-Xc,<-Zr,Zb]
 have h2:8^(n/3)<=10^(n/3):=W8 ae _
 have h3:2^(n%3)<=4:=by
  have:n%3<3:=Zk _ ae;exact Zs (Z6 ae (show n%3<=2 by omega)) ae
 have h4:10^(n/3+1)<=10^K:=Z6 ae h;have h5:=Zg h2 h3
 grind
theorem VD{K:Nat}(h:n/3+1<=K)(hK:0<K):ndg (2^n)<=K:=cg (QT h) hK
theorem ab8{K:Nat}(h:n/3+1<=K):2^n<Z^K:=Z3 (QT h) (W8 ae _)
theorem Oa(hn:n<=4000):2^n<Z^2000∧ndg (2^n)<=2000:=
 ⟨ab8 (K:=2000) aa,VD (K:=2000) aa aa⟩
theorem Qu(hn:n<=4000):CP Y F.jE [S [50],I n] (.tup [S (ag (2^n)),I 0]):=by
 refine Ct ?_;by_cases h0:n=0
 .subst h0;rw[Nat.pow_zero,pB];simp[jE];simp[eX]
 have g1:¬(n:Int)=0:=aa;have g2:¬(n:Int)<0:=aa;have g3:¬(n:Int)>66439:=aa;have n1:¬([50]:LuQ)=[49]:=ae;have n2:¬([50]:LuQ)=[48]:=ae;have ct:=tR (h:=[nnQ,nnQ,nnQ]) rfl (n:=2) (cap:=1) b9 b9;rw[A8]at ct;obtain⟨p1,p2⟩:=Oa hn
 have hli:∀h:Hp,fj 1 [D.int .u64 0] [(0,V.d (D.int .u64 1))] h=some ([u6 1],h):=fun h=>by rfl
 simp(disch:=try exact ac)[jE,g1,g2,n1,n2];refine cd Ur ?_;simp[g3,hli];refine dX (eU (e:=0) (b:=.none) ct rfl ?_);rw[Zd,c9];simp
 have nv:NV [(1,.data 1 ((bv 1 2).map u6) true false),nnQ,nnQ]:=by
  intro j x hj b';rcases Ws.2 ⟨j,hj⟩with hm;simp only[Zc,Yc,or_false]at hm;rcases hm with rfl|rfl|rfl<;>rfl
 refine lo (Sb _ n 1 2 (lst u6 [1]) _ [(1,.data 1 ((bv 1 2).map u6) true false),nnQ,nnQ] (2^n) (by rw[Ye]) ae ae p1 aa rfl nv ?_ ?_ (fun o' h' h2 hl hr hv=>?_) _ rfl)
 .intro h' _ _;rw[show dig Z 1=[1] by rfl];simp[Pb]
 .exact RdN.new (s:=1) (t:=0) ae rfl ae
 .have hl1:¬(ndg (2^n):Int)>20000:=aa;have lt:=mM (2^n);have tx:=xl (n:=2^n) (Zu (jp p1) ae);generalize 2^n=m at *;simp;refine cdz (by simp only[av,hr];rfl) tx ?_;rw[show gh (S (ag m))=true from rfl,if_pos rfl];simp[lt,hl1];simp[eX]
theorem PQ(hn:n<=4000):CP Y F.px [S [50],I n] (.tup [S (ag (2^n)),I 0]):=by refine FJ ?_;have sp:=Gx 2;rw[A8]at sp;have g2:¬(n:Int)<0:=aa;have g3:¬(n:Int)>4000:=aa;obtain⟨p1,p2⟩:=Oa hn;have q:((4000:Int).tdiv 1)=4000:=ae;simp[px,g2];refine cd sp ?_;simp[g3,q];refine cd (Qu hn) ?_;simp;refine cd (Tf _) ?_;simp[eX]
def dgF(unit two:Nat):Nat->Nat->Nat->Nat->Option Nat
 |0,_,_,out=>some out
 | r+1,low,high,out=>
  cond (Nat.ble two (low*low/unit)) (dgF unit two r (low*low/unit/2) ((high*high/unit+1)/2+1) (out+out+1))
   (cond (Nat.ble two (high*high/unit+1)) none (dgF unit two r (low*low/unit) (high*high/unit+1) (out+out)))
def ET(p n more:Nat):Option Nat:=dgF (2^more) (2^more+2^more) n (p*2^(more-(eY p-1))) (p*2^(more-(eY p-1))) (eY p-1)
theorem Dr(ha:ndg a<999999)(hb:ndg b<999999):CP Y F.j6 [S (ag a),S (ag b)] (S (ag (a+b))):=by have:=Dq (z:=(a:Int)) (w:=(b:Int)) (by trivial) (by trivial);trivial
theorem yU(ha:ndg a<400000)(hb:ndg b<400000):CP Y F.cW [S (ag a),S (ag b)] (S (ag (a*b))):=by have:=wn (z:=(a:Int)) (w:=(b:Int)) (by trivial) (by trivial);trivial
theorem Jt(h0:0<b)(ha:ndg a<900000)(hb:ndg b<900000):CP Y F.fE [S (ag a),S (ag b)] (.tup [S (ag (a/b)),S (ag (a%b)),I 0]):=by grind[Dp,iC]
theorem zw:ndg (a*b)<=ndg a+ndg b:=by
 have h3:a*b<10^(ndg a+ndg b):=by rw[Zr];exact Y6 (ci a) (ci b)
 exact cg h3 (by grind[k8])
def wY(p n:Nat):Option Nat:=if p=2 then some (2^n)else ET p n (n+64)
theorem ut(P:Nat):∀(n lo hi:Nat)(l:List Bool),Af P n lo hi=some l->l.length=n
 | 0,lo,hi,l,h=>by
  have:l=[]:=by simpa[Af]using h.symm
  rw[this];rfl
 | n+1,lo,hi,l,h=>by
  simp only[Af]at h;split at h
  .cases h
  split at h
  .split at h
   .obtain⟨l2,e1,rfl⟩:=Z2.1 h;simp[ut P n _ _ l2 e1]
   .cases h
  .split at h
   .cases h
   .obtain⟨l2,e1,rfl⟩:=Z2.1 h;simp[ut P n _ _ l2 e1]
theorem aaM(w v P:Nat)(s1 s2:Nat×Bk):([(1,.vars [.d (.sl w ((wds w v).map u6)),.d (.sl w ((wds w v).map u6)),I P]),s1,s2]:Hp)=mnH w v v P s1 s2:=by simp[mnH,lst,bc]
theorem M6(A:kY){P:Nat}(hw:w=P/64+2)(hP:P<100000)(hk:k<=P)(hp:p<128)(hn:n<100000)(he:Af P n (p*2^(P-k)) (p*2^(P-k))=some l):
  CP Y F.jH [I p,I k,I n,I P] (.tup [lst mnD l,B true]):=by
 refine yG ?_;have bg:=Qq hw hP hk hp;have hl:=ut P n _ _ l he;have main:=fun x0 y0 K h=>OO A hw hP hn x0 y0 K n 0 (p*2^(P-k)) (p*2^(P-k)) [] l aa rfl he h
 simp[jH];refine dX (IW (s:=0) (e:=0) (b:=.none) bg rfl ?_)
 have eh:(b3.set 0 (0+1,Bk.vars (([.sl w ((wds w (p*2^(P-k))).map u6),.sl w ((wds w (p*2^(P-k))).map u6),.int .i64 P]:LdQ).map .d)))=mnH w (p*2^(P-k)) (p*2^(P-k)) P nnQ (mnA.b 0 (([]:List Bool).map mnD)):=by
  rw[<-aaM];rfl
 rw[eh];simp;refine lo (main _ _ _ fun lo hi=>?_);obtain⟨h',q1,_⟩:=uJ mnA (L:=n) (cells:=l.map mnD) (h:=mnH w lo hi P nnQ (mnA.b n (l.map mnD))) rfl (by simp[hl,mnA]);have e:lst mnD l=.d (.sl n (l.map mnD)):=by rw[<-hl];rfl
 rw[e];exact eX q1 rfl
theorem Fv:∀(a b:List Bool)(v:Nat),oN v (a++b)=oN (oN v a) b
 |[],_,_=>rfl
 |x::a,b,v=>by simp only[List.cons_append,oN,Fv a b]
theorem uI:∀(a:List Bool)(v:Nat),oN v a=v*2^a.length+oN 0 a
 |[],v=>by simp[oN]
 | x::a,v=>by
  simp only[oN,List.length_cons,X5,Zn];rw[uI a (v*2+_),uI a (if x=true then 1 else 0),Nat.add_mul,Nat.pow_succ];have:v*2*2^a.length=v*(2^a.length*2):=by ac_rfl
  omega
theorem An:∀(a:List Bool),oN 0 a<2^a.length
 |[]=>by decide
 | x::a=>by
  have h:=An a;simp only[oN,List.length_cons,X5,Zn];rw[uI a,Nat.pow_succ];have:=Zp a.length;cases x<;>simp<;>omega
theorem aaL(hi:i<l.length)(H:Hp):ixV H 1 (lst mnD l) (I i)=some (.dptr (l.map mnD) i)∧ld1 H (.dptr (l.map mnD) i)=some (B (nth false l i)):=
 ⟨jL mnD l H rfl hi,lC mnD false l H hi⟩
theorem OM{l:List Bool}(hl:l.length<=28)(H:Hp)(K:KL)(hK:K (.exit 4) [I (oN 0 l)] H):∀(q a:List Bool),a++q=l ->
  lp (io (CX Y) (lst mnD l) (I l.length)) [] H [I (oN 0 a),I a.length] H K
 | [],a,h=>by
  have e:a=l:=by simpa using h
  subst e;refine ai ?_;simp[io];exact hK
 | b::q,a,h=>by
  have hll:l.length=a.length+(q.length+1):=by rw[<-h];simp
  have ih:=OM hl H K hK q (a++[b]) (by simpa using h);have hb:oN 0 (a++[b])<2^28:=Z3 (An _) (Z6 ae ak);have hv:oN 0 (a++[b])=oN 0 a*2+(if b then 1 else 0):=by rw[Fv];rfl
  rw[hv]at ih hb;have hn:nth false l a.length=b:=by rw[<-h,mf]
  obtain⟨i1,i2⟩:=aaL (l:=l) (i:=a.length) aa H;rw[hn]at i2;have g:(a.length:Int)<l.length:=aa;have e2:((a++[b]).length:Int)=(a.length:Int)+1:=af;rw[e2]at ih;have h28:(2:Nat)^28=268435456:=ae;rw[h28]at hb;have hre:bm [] 0 H H=H:=iV 0 H H rfl;generalize oN 0 a=z at *;refine ai ?_;simp(disch:=try exact ac)[io,g,i1,i2]
  refine aE ?_;simp(disch:=try exact ac)[i1,i2];cases b with
  | false=>
   simp at ih hb;refine aE ?_;simp(disch:=try exact ac)[hre];exact ih
  | true=>
   simp at ih hb;refine aE ?_;simp(disch:=try exact ac)[hre];exact ih
set_option exponentiation.threshold 5000 in
theorem ON(H:Hp)(K:KL):∀(m:Nat)(l:List Bool)(v:Nat),l.length<=28*m->l.length<=1000->v<2^(1010-l.length)->K (.exit 2) [S (ag (oN v l))] H ->
  lp (eK (CX Y)) [] H [S (ag v),lst mnD l] H K
 | 0,l,v,hm,h64,hv,hK=>by
  have e:l=[]:=Yv.1 aa;subst e;refine ai ?_;simp[eK];exact hK
 | m+1,l,v,hm,h64,hv,hK=>by
  by_cases h0:l=[]
  .subst h0;refine ai ?_;simp[eK];exact hK
  have hl0:0<l.length:=Xq.2 h0;obtain⟨g,hg⟩:=nmQ (min l.length 28);have g1:g<=l.length:=aa;have g2:g<=28:=aa;have g3:0<g:=aa;have tl:(l.take g).length=g:=by simp;omega
  have hb:=An (l.take g);rw[tl]at hb;have e1:oN v l=oN (oN v (l.take g)) (l.drop g):=by rw[<-Fv,Ys]
  have e2:oN v (l.take g)=v*2^g+oN 0 (l.take g):=by rw[uI,tl]
  have hv2:oN v (l.take g)<2^(1010-(l.drop g).length):=by
   rw[e2,Yz,show 1010-(l.length-g)=(1010-l.length)+g by omega,Zr];have:=Zx (2^g) (show v+1<=2^(1010-l.length)from hv);rw[Nat.add_mul,Ye]at this;omega
  have ih:=ON H K m (l.drop g) (oN v (l.take g)) (by rw[Yz];omega) (by rw[Yz];omega) hv2 (by rw[<-e1];exact hK);rw[e2]at ih
  have hv70:v<10^310:=by
   have h1:(2:Nat)^(1010-l.length)<=2^1010:=Z6 ae aa;have h2:(2:Nat)^70<=10^310:=ae;omega
  have hg28:2^g<=2^28:=Z6 ae g2;have h28:(2:Nat)^28=268435456:=ae;have hgp:=Zp g;have n1:ndg v<=310:=cg hv70 ae;have n2:ndg (2^g)<=310:=cg (Zu hg28 ae) ae
  have hm30:v*2^g<10^330:=by
   have h1:v*2^g<=10^310*2^28:=Zg aa hg28;have h2:(10:Nat)^30*2^28<10^330:=ae;omega
  have n3:ndg (v*2^g)<=330:=cg hm30 ae;obtain⟨a,ha⟩:=nmQ (oN 0 (l.take g));rw[<-ha]at hb ih;have n4:ndg a<=310:=cg (Z3 hb (Zs hg28 ae)) ae;have o1:=AS (n:=2^g) aa;have o2:=AS (n:=a) aa;have mu:=yU (a:=v) (b:=2^g) aa aa
  have ad:=Dr (a:=v*2^g) (b:=a) aa aa
  have mx:mxI false [I l.length,I 28]=some (I g):=by
   simp[mxI,mx2];omega
  have s1:=NL (h:=H) (i:=(g:Int)) mnD l hl0 rfl g1;have s2:=YS (h:=H) (i:=(g:Int)) mnD l hl0 rfl g1;have ll:aj (lst mnD l)=some (I l.length):=rfl;have lt:aj (lst mnD (l.take g))=some (I g):=by rw[show aj (lst mnD (l.take g))=some (I (l.take g).length)from rfl,tl]
  have l2:=fun K hK=>OM (l:=l.take g) aa H K hK (l.take g) [] rfl
  rw[tl,<-ha]at l2
  have sh:biI .shl (I 1) (I g)=some (I ((2^g:Nat):Int)):=by
   have e:(1:Int)*2^((g:Int)).toNat=((2^g:Nat):Int):=af;rw[NP aa aa,e];generalize 2^g=G at hg28;rw[wrap_i64 ⟨aa,aa⟩]
  have gp:(0:Int)<l.length:=aa;have hre:bm [] 0 H H=H:=iV 0 H H rfl;refine ai ?_;simp(disch:=try exact ac)[eK,ll,gp,mx,s1,lt];refine lo (l2 _ ?_);simp(disch:=try exact ac)[sh];refine cd o1 ?_;simp;refine cd mu ?_;simp;refine cd o2 ?_;simp;refine cd ad ?_;simp[s2,hre];exact ih
def zH(n:Nat):Hp:=[(1,.data 1 (List.replicate n (.bool false)) true false)]
theorem abW{len:Nat}(hg:g<=len)(h:off+len=n):slV (zH n) 1 (.ref 0 1 off len len n) none (some (I g))=some (.ref 0 1 off g len n):=by have:(g:Int)<=len:=aa;simp[slV,zH,aH,boV,this]
theorem abV{len:Nat}(hg:g<=len)(h:off+len=n):slV (zH n) 1 (.ref 0 1 off len len n) (some (I g)) none=some (.ref 0 1 (off+g) (len-g) (len-g) n):=by have:(g:Int)<=len:=aa;simp[slV,zH,aH,boV,this]
theorem abU{len:Nat}(hi:i<g)(hg:g<=len)(h:off+len=n):∃w,ixV (zH n) 1 (.ref 0 1 off g len n) (I i)=some w∧ld1 (zH n) w=some (B false):=by
 have h1:(i:Int)<g:=aa;have h2:(List.replicate n (D.bool false))[off+i]?=some (.bool false):=by rw[List.getElem?_replicate,if_pos aa]
 refine⟨.ptr 0 1 (off+i) n,?_,?_⟩
 .simp[ixV,zH,aH,h1]
  try omega
 .simp[ld1,zH,aH,h2]
theorem Lf{n off g len:Nat}(hg:g<=len)(h:off+len=n)(hg28:g<=28)(K:KL)(hK:K (.exit 4) [I 0] (zH n)):∀(k i:Nat),i+k=g ->
  lp (io (CX Y) (.ref 0 1 off g len n) (I g)) [] (zH n) [I 0,I i] (zH n) K
 | 0,i,hi=>by
  have e:i=g:=aa;subst e;refine ai ?_;simp[io];exact hK
 | k+1,i,hi=>by
  have ih:=Lf hg h hg28 K hK k (i+1) aa;obtain⟨w,i1,i2⟩:=abU (i:=i) aa hg h;have gi:(i:Int)<g:=aa;have e2:((i+1:Nat):Int)=(i:Int)+1:=af;rw[e2]at ih;have hre:bm [] 0 (zH n) (zH n)=zH n:=iV 0 _ _ rfl;generalize zH n=H at *
  have i1':ixX (jN H 0 1) 1 0 1 off g n (i:Int)=some w:=by
   rw[<-i1];unfold jN;simp only[ixV,ixX];cases aH H 0 1<;>rfl
  refine ai ?_;simp(disch:=try exact ac)[io,gi,i1,i1',i2];refine aE ?_;simp(disch:=try exact ac)[i1,i1',i2];refine aE ?_;simp(disch:=try exact ac)[hre];exact ih
set_option exponentiation.threshold 5000 in
theorem Lg{n:Nat}(hn:n<=1000)(K:KL):∀(m len off v:Nat),off+len=n->len<=28*m->v<2^(1010-len)->K (.exit 2) [S (ag (v*2^len))] (zH n) ->
  lp (eK (CX Y)) [] (zH n) [S (ag v),.ref 0 1 off len len n] (zH n) K
 | 0,len,off,v,h,hm,hv,hK=>by
  have e:len=0:=aa;subst e;rw[Nat.pow_zero,Y0]at hK;refine ai ?_;simp[eK];exact hK
 | m+1,len,off,v,h,hm,hv,hK=>by
  by_cases h0:len=0
  .subst h0;rw[Nat.pow_zero,Y0]at hK;refine ai ?_;simp[eK];exact hK
  obtain⟨g,hg⟩:=nmQ (min len 28);have g1:g<=len:=aa;have g2:g<=28:=aa
  have hv2:v*2^g<2^(1010-(len-g)):=by
   rw[show 1010-(len-g)=(1010-len)+g by omega,Zr];exact Xp hv (Zp g)
  have ih:=Lg hn K m (len-g) (off+g) (v*2^g) aa aa hv2 (by
   rw[Nat.mul_assoc,<-Zr,show g+(len-g)=len by omega];exact hK)
  have hv70:v<10^310:=by
   have h1:(2:Nat)^(1010-len)<=2^1010:=Z6 ae aa;have h2:(2:Nat)^70<=10^310:=ae;omega
  have hg28:2^g<=2^28:=Z6 ae g2;have h28:(2:Nat)^28=268435456:=ae;have hgp:=Zp g;have n1:ndg v<=310:=cg hv70 ae;have n2:ndg (2^g)<=310:=cg (Zu hg28 ae) ae
  have hm30:v*2^g<10^330:=by
   have h1:v*2^g<=10^310*2^28:=Zg aa hg28;have h2:(10:Nat)^30*2^28<10^330:=ae;omega
  have n3:ndg (v*2^g)<=330:=cg hm30 ae;have n4:ndg 0<=310:=cg ae ae;have o1:=AS (n:=2^g) aa;have o2:CP Y F.gn [I 0] (S (ag 0)):=AS (n:=0) ae;have mu:=yU (a:=v) (b:=2^g) aa aa;have ad:=Dr (a:=v*2^g) (b:=0) aa aa;rw[Nat.add_zero]at ad
  have mx:mxI false [I len,I 28]=some (I g):=by
   simp[mxI,mx2];omega
  have s1:=abW g1 h;have s2:=abV g1 h;have l2:=fun K hK=>Lf g1 h g2 K hK g 0 aa
  have sh:biI .shl (I 1) (I g)=some (I ((2^g:Nat):Int)):=by
   have e:(1:Int)*2^((g:Int)).toNat=((2^g:Nat):Int):=af;rw[NP aa aa,e];generalize 2^g=G at hg28;rw[wrap_i64 ⟨aa,aa⟩]
  have gp:(0:Int)<len:=aa;have hre:bm [] 0 (zH n) (zH n)=zH n:=iV 0 _ _ rfl;have ll:∀a b c:Nat,aj (.ref 0 1 a b c n)=some (I b):=fun _ _ _=>rfl
  generalize zH n=H at *;refine ai ?_;simp(disch:=try exact ac)[eK,ll,gp,mx,s1];refine lo (l2 _ ?_);simp(disch:=try exact ac)[sh];refine cd o1 ?_;simp;refine cd mu ?_;simp;refine cd o2 ?_;simp;refine cd ad ?_;simp[s2,hre];exact ih
theorem C1(hp:bw (p:Int)=true):∃k,eY p=k+1∧bln p-1=k∧1<=k∧k<=6∧p<=97∧2<=p∧CP Y F.kM [.d (.int .u64 p)] (I ((k:Int)+1))∧CP Y F.gn [I k] (S (ag k)):=by
 have hp97:=nX hp
 have nb:eY p<=7∧2<=eY p:=by
  have h1:=(Nat.log2_lt (n:=p) (k:=7) aa).2 aa;have h2:=(Nat.le_log2 (n:=p) (k:=1) aa).2 aa;unfold eY;split<;>omega
 obtain⟨k,hk⟩:∃k,eY p=k+1:=⟨eY p-1,aa⟩;have ln:=VS (n:=p) aa;have ek:((eY p:Nat):Int)=(k:Int)+1:=aa;rw[ek]at ln
 have eb:bln p-1=k:=by
  have:bln p=eY p:=rfl;omega
 exact⟨k,hk,eb,aa,aa,aa,aa,ln,AS (n:=k) aa⟩
theorem Ld(hn:n<=1000):CP Y F.fC [I 2,I n] (S (ag (2^n))):=by
 obtain⟨k,hk,eb,k1,k6,p97,p2,ln,o1⟩:=C1 (p:=2) ae
 obtain rfl:k=1:=by
  have:eY 2=2:=ae;omega
 refine vF ?_;have l1:=fun K hK=>Lg hn K 36 n 0 1 aa aa (Nat.one_lt_two_pow aa) hK
 rw[Ye]at l1;have e0:[(1,Bk.data 1 (List.replicate n (D.bool false)) true false)]=zH n:=rfl;simp(disch:=try exact ac)[fC];refine cd ln ?_;simp(disch:=try exact ac);refine cd o1 ?_;simp(disch:=try exact ac);refine aE ?_;simp(disch:=try exact ac)[e0];refine lo (ai ?_)
 simp(disch:=try exact ac)[qy];refine lo (l1 _ ?_);simp;exact⟨_,rfl⟩
theorem Le(A:kY){p n:Nat}(hp:bw (p:Int)=true)(h2:p≠2)(hn:n<=1000){l:List Bool}(he:Af (n+64) n (p*2^(n+64-(bln p-1))) (p*2^(n+64-(bln p-1)))=some l) :
  CP Y F.fC [I p,I n] (S (ag (oN (bln p-1) l))):=by
 obtain⟨k,hk,eb,k1,k6,p97,p2,ln,o1⟩:=C1 hp;rw[eb]at he ⊢;have hl:=ut _ _ _ _ _ he;refine vF ?_;have dg:=M6 A (p:=p) (k:=k) (n:=n) (P:=n+64) rfl aa aa aa aa he;have eP:((n+64:Nat):Int)=(n:Int)+64:=af;rw[eP]at dg
 have hk7:k<2^(1010-l.length):=Z3 (show k<2^6 by omega) (Z6 ae aa);have l1:=fun H K hK=>ON H K 36 l k aa aa hk7 hK
 have g2:¬(p:Int)=2:=aa;simp(disch:=try exact ac)[fC];refine cd ln ?_;simp(disch:=try exact ac);refine cd o1 ?_;simp(disch:=try exact ac)[g2];refine aE ?_;simp(disch:=try exact ac);refine lo (ai ?_);simp(disch:=try exact ac)[qy,g2];refine cd dg ?_
 simp(disch:=try exact ac);refine lo (l1 _ _ ?_);simp;exact⟨_,rfl⟩
theorem WS(A:kY)(hp:bw (p:Int)=true)(hn:n<=64):∃N,wX p n 160=some N∧N<2^71∧CP Y F.fC [I p,I n] (S (ag N)):=by
 by_cases h2:p=2
 .subst h2;exact⟨2^n,Ir ⟨n,aa⟩,Nat.pow_lt_pow_right ae aa,Ld aa⟩
 .obtain⟨l,he,hlog⟩:=TI hp h2 hn;obtain⟨k,hk,eb,k1,k6,p97,p2,ln,o1⟩:=C1 hp;refine⟨_,hlog,?_,Le A hp h2 aa he⟩;have hl:=ut _ _ _ _ _ he;rw[uI,eb];have h1:=An l;have h3:(k+1)*2^l.length<=2^6*2^64:=Zg aa (Z6 ae aa);have h4:(2:Nat)^6*2^64<2^71:=ae
  rw[Nat.add_mul,Ye]at h3;omega
end Go.Vm
namespace Go.Big
open Go Go.Am Go.Vm
def EP(p n:Nat):Option Nat:=(Af (n+64) n (p*2^(n+64-(bln p-1))) (p*2^(n+64-(bln p-1)))).map (oN (bln p-1))
def ado(p n:Nat):Bool:=match EP p n,EP p 64 with
 |some a,some b=>decide (a/2^(n-64)=b)
 |_,_=>false
def adp(p n:Nat):Bool:=match EP p 64,EP p n with
 |some a,some b=>decide (a/2^(64-n)=b)
 |_,_=>false
set_option exponentiation.threshold 5000
theorem TJ:∀p:Fin 98,bw p.val=true->p.val≠2->([128,256,512,1000]:LnQ).all (ado p.val)=true:=b9
theorem TK:∀p:Fin 98,bw p.val=true->p.val≠2->(List.range 65).all (adp p.val)=true:=b9
end Go.Big
namespace Go.Vm
open Go Go.Am Go.Big
variable{p:LiQ}{n z w c:Int}{g d L x k r y:Nat}{s:List Tx}
def jm(n:Nat):Prop:=n=32∨n=64∨n=128∨n=256∨n=512∨n=1000
theorem WR{p n:Nat}(hp:bw (p:Int)=true)(h2:p≠2)(hn:n<=64):∃a,EP p n=some a∧wX p n 160=some a:=by obtain⟨l,e,h⟩:=TI hp h2 hn;exact⟨oN (bln p-1) l,by unfold EP;rw[e];rfl,h⟩
theorem Lc{p n:Nat}(hp:bw (p:Int)=true)(h2:p≠2)(hn:n<=64):∃a b,EP p 64=some a∧EP p n=some b∧a/2^(64-n)=b:=by
 have h:=Zq.1 (TK ⟨p,by have:=nX hp;omega⟩ hp h2) n (Xm.2 aa);unfold adp at h;split at h
 .rename_i a b ha hb;exact⟨a,b,ha,hb,by simpa using h⟩
 .cases h
theorem Hh{p n m:Nat}(hp:bw (p:Int)=true)(h2:p≠2)(hn:jm n)(hm:m<=n)(hm2:m<=64):∃a b,EP p n=some a∧wX p m 160=some b∧a/2^(n-m)=b:=by
 obtain⟨a,b,ha,hb,e⟩:=Lc hp h2 hm2;obtain⟨b',hb',hl⟩:=WR hp h2 hm2;rw[hb]at hb';obtain rfl:=Option.some.inj hb';by_cases h64:n<=64
 .rcases(show n=32∨n=64 by unfold jm at hn;omega)with rfl|rfl
  .obtain⟨a2,b2,ha2,hb2,e2⟩:=Lc hp h2 (n:=32) aa;rw[ha]at ha2;obtain rfl:=Option.some.inj ha2;refine⟨b2,b,hb2,hl,?_⟩;rw[<-e2,Ze,<-Zr,<-e];congr 2;omega
  .exact⟨a,b,ha,hl,e⟩
 .have hx:n∈([128,256,512,1000]:LnQ):=by unfold jm at hn;simp;omega
  have h:=Zq.1 (TJ ⟨p,by have:=nX hp;omega⟩ hp h2) n hx;unfold ado at h;split at h
  .rename_i x y hx hy;rw[ha]at hy;obtain rfl:=Option.some.inj hy;have h:x/2^(n-64)=a:=by simpa using h
   refine⟨x,b,hx,hl,?_⟩;rw[<-e,<-h,Ze,<-Zr];congr 2;omega
  .cases h
abbrev Q:=Int×Nat
variable{a b:Q}
def okQ(x:Q):Prop:=0<x.2∧Nat.gcd x.1.natAbs x.2=1
def qT(x:Q):LwQ:=[S (itoa x.1),S (ag x.2)]
def dV(n:Int)(d:Nat):Q:=(n/(Nat.gcd n.natAbs d:Nat),d/Nat.gcd n.natAbs d)
def qR(a b:Q):Q:=dV (a.1*b.2+b.1*a.2) (a.2*b.2)
def nW(a b:Q):Q:=dV (a.1*b.1) (a.2*b.2)
def KD(n d:Int):Q:=if d<0 then dV (-n) d.natAbs else dV n d.natAbs
def J3(a b:Q):Q:=KD (a.1*b.2) (a.2*b.1)
theorem Nl(h:g∣n.natAbs):(g:Int)∣n:=Int.natAbs_dvd_natAbs.1 (by simpa using h)
theorem Ip(n:Int)(hd:0<d):okQ (dV n d):=by
 have hg:0<Nat.gcd n.natAbs d:=Yg _ hd;obtain⟨g,hgg⟩:=nmQ (Nat.gcd n.natAbs d);have h1:g∣n.natAbs:=by rw[hgg];exact W7 ..
 have h2:g∣d:=by rw[hgg];exact Nat.gcd_dvd_right ..
 unfold dV;rw[<-hgg]at hg ⊢;refine⟨Nat.div_pos (V9 hd h2) hg,?_⟩
 have e:(n/(g:Int)).natAbs=n.natAbs/g:=by
  rw[Wy (Nl h1),Int.natAbs_natCast]
 simp only[e];rw[Nat.gcd_div h1 h2,<-hgg,Nat.div_self hg]
theorem Eh(h:Nat.gcd n.natAbs d=1):dV n d=(n,d):=by unfold dV;rw[h];simp
theorem Ow(n:Int)(d:Nat):(dV n d).1.natAbs<=n.natAbs∧(dV n d).2<=d:=by
 obtain⟨g,hgg⟩:=nmQ (Nat.gcd n.natAbs d);have h1:g∣n.natAbs:=by rw[hgg];exact W7 ..
 unfold dV;rw[<-hgg];constructor
 .simp only;rw[Wy (Nl h1),Int.natAbs_natCast];exact Y5 ..
 .exact Y5 ..
theorem Vz(k:KL)(h:Hp)(h0:Hp)(hl:h.length=h0.length):∀(m:Nat)(a b:Int),b.natAbs<=m->a.natAbs<9223372036854775807->b.natAbs<9223372036854775807 ->
  (∀c:Int,c.natAbs=Nat.gcd a.natAbs b.natAbs->k (.exit 0) [I c] h)->lp (nL (CX Y)) [] h0 [I a,I b] h k:=by
 intro m
 induction m with
 | zero=>
  intro a b hb ha hb2 hk;have hb0:b=0:=aa;subst hb0;refine ai ?_;simp[nL];exact hk a af
 | succ m ih=>
  intro a b hb ha hb2 hk;refine ai ?_;by_cases hb0:b=0
  .subst hb0;simp[nL];exact hk a af
  ·have hr:(a.tmod b).natAbs<b.natAbs:=by
    rw[Int.natAbs_tmod];exact Zk _ aa
   have e:Nat.gcd b.natAbs (a.tmod b).natAbs=Nat.gcd a.natAbs b.natAbs:=by
    rw[Int.natAbs_tmod,X2,<-V8,X2]
   simp[nL,hb0,hl];exact ih b (a.tmod b) aa aa aa (fun c hc=>hk c (hc.trans e))
theorem ky{a b a' b':LuQ}{h:Hp}(e1:a'=a)(e2:b'=b):out (.agg [S a,S b]) (.agg [S a',S b']) h:=by subst e1;subst e2;exact⟨h,by simp[aP,av,norm]⟩
theorem OI(hd:0<d)(hn:n.natAbs<9223372036854775807)(hd2:d<9223372036854775807):CP Y F.jB [I n,I d] (.agg (qT (dV n d))):=by
 refine FU ?_;obtain⟨g,hgg⟩:=nmQ (Nat.gcd n.natAbs d);have hg:0<g:=by rw[hgg];exact Yg _ hd
 have h1:g∣n.natAbs:=by rw[hgg];exact W7 ..
 have h2:g∣d:=by rw[hgg];exact Nat.gcd_dvd_right ..
 have hgd:g<=d:=V9 hd h2;have e1:n.tdiv (g:Int)=n/(g:Int):=Int.tdiv_eq_ediv_of_dvd (Nl h1);have e2:(d:Int).tdiv (g:Int)=((d/g:Nat):Int):=by rw[Z1 aa,<-Int.natCast_ediv]
 have e3:(n/(g:Int)).natAbs<=n.natAbs:=by
  rw[Wy (Nl h1),Int.natAbs_natCast];exact Y5 ..
 have e4:d/g<=d:=Y5 ..;have eq:qT (dV n d)=[S (itoa (n/(g:Int))),S (ag (d/g))]:=by unfold qT dV;rw[<-hgg]
 rw[eq];generalize n/(g:Int)=nq at *;generalize d/g=dq at *;have i1:=xD (z:=nq) aa aa;have i2:=xD (z:=(dq:Int)) aa aa;rw[iC]at i2;have hg0:¬(g:Int)=0:=aa;simp[jB];refine lo (Vz _ _ _ rfl (d:Int).natAbs n d (Z7 _) hn aa (fun c hc=>?_));rw[Int.natAbs_natCast,<-hgg]at hc;simp
 have tail:∀u:Unit,bnd (biI .quo (I n) (I g)) fun v6=>
   cal (CX Y).p [(1,.vars [.d (.str []),.d (.str [])])] (.fn F.strconv_Itoa [] []) [v6] fun v7 h=>
   bnd (biI .quo (I d) (I g)) fun v8=>
   cal (CX Y).p h (.fn F.strconv_Itoa [] []) [v8] fun v9 h=>
   bnd (bld [(0,1),(1,1)] [.str [],.str []] [(0,v7),(1,v9)]) fun v10=>
   stD h 2 (.ptr 0 1 0 2) v10 fun _ h=>
   bnd (ldA h 2 (.ptr 0 1 0 2)) fun v12=>
   out (.agg [S (itoa nq),S (ag dq)]) v12 h:=by
  intro _;simp(disch:=try exact ac)[e1,e2,hg0];refine cd i1 ?_;simp(disch:=try exact ac)[e2,hg0];refine cd i2 ?_;simp;exact ky rfl rfl
 by_cases hc0:c<0
 .have hcg : -c=(g:Int):=aa;refine dy (l:=[I g]) (h:=[(1,.vars [.d (.str []),.d (.str [])])]) (fun q=>by simp(disch:=try exact ac)[hc0,hcg]) ?_;exact tail ()
 .have hcg:c=(g:Int):=aa;subst hcg;refine dy (l:=[I g]) (h:=[(1,.vars [.d (.str []),.d (.str [])])]) (fun q=>by simp[hc0]) ?_;exact tail ()
def qL(K:Nat)(x:Q):Prop:=ndg x.1.natAbs<=K∧ndg x.2<=K
theorem MP{K:Nat}(h1:ndg n.natAbs<=K)(h2:ndg d<=K):qL K (dV n d):=
 ⟨Zs (mC (Ow n d).1) h1,Zs (mC (Ow n d).2) h2⟩
theorem qL.mono{K:Nat}{x:Q}(h:qL K x)(hl:K<=L):qL L x:=⟨Zs h.1 hl,Zs h.2 hl⟩
theorem jA(hz:ndg z.natAbs<=k)(hw:ndg w.natAbs<=k):ndg (z+w).natAbs<=k+1:=
 Zs (mC (Int.natAbs_add_le z w)) (Ii hz hw)
theorem eA:ndg (z*w).natAbs<=ndg z.natAbs+ndg w.natAbs:=by rw[Y3];exact zw
theorem aat{K:Nat}(ha:qL K a)(hb:qL L b):qL (K+L+1) (qR a b):=by
 refine MP (jA ?_ ?_) ?_
 .have:=eA (z:=a.1) (w:=(b.2:Int));rw[Int.natAbs_natCast]at this;have:=ha.1;have:=hb.2;omega
 .have:=eA (z:=b.1) (w:=(a.2:Int));rw[Int.natAbs_natCast]at this;have:=hb.1;have:=ha.2;omega
 .have:=zw (a:=a.2) (b:=b.2);have:=ha.2;have:=hb.2;omega
theorem aas{K:Nat}(ha:qL K a)(hb:qL L b):qL (K+L) (nW a b):=by
 refine MP ?_ ?_
 .have:=eA (z:=a.1) (w:=b.1);have:=ha.1;have:=hb.1;omega
 .have:=zw (a:=a.2) (b:=b.2);have:=ha.2;have:=hb.2;omega
theorem Vf(ha:okQ a)(hb:okQ b):okQ (qR a b):=Ip _ (Y4 ha.1 hb.1)
theorem Vb(ha:okQ a)(hb:okQ b):okQ (nW a b):=Ip _ (Y4 ha.1 hb.1)
theorem GU{d:Int}(hd:d≠0)(hn:ndg n.natAbs<800000)(hd2:ndg d.natAbs<800000):CP Y F.b6 [S (itoa n),S (itoa d)] (.agg (qT (KD n d))):=by
 refine zN ?_;have sg0:=t8 d
 have tail:∀(n:Int)(d:Nat),0<d->ndg n.natAbs<800000->ndg d<800000 ->
   cal (CX Y).p [(1,.vars [.d (.str []),.d (.str [])])] (.fn F.py [] []) [S (itoa n),S (ag d)] fun v6 h=>
  bnd (biS .neq v6 (.d (.str [49]))) fun v7=>
  jn (fun l8 h=>
   bnd (bld [(0,1),(1,1)] [.str [],.str []] [(0,(ge l8 0)),(1,(ge l8 1))]) fun v10=>
   stD h 2 (.ptr 0 1 0 2) v10 fun _ h=>
   bnd (ldA h 2 (.ptr 0 1 0 2)) fun v12=>
   out (.agg (qT (dV n d))) v12 h) fun q9=>
   cnd v7 (
    cal (CX Y).p h (.fn F.fE [] []) [S (itoa n),v6] fun v13 h=>
    ext v13 0 fun v14=>
    ext v13 1 fun v15=>
    ext v13 2 fun v16=>
    cal (CX Y).p h (.fn F.fE [] []) [S (ag d),v6] fun v17 h=>
    ext v17 0 fun v18=>
    ext v17 1 fun v19=>
    ext v17 2 fun v20=>
    q9 [v14,v18] h) (
    q9 [S (itoa n),S (ag d)] h):=by
  intro n d hd hn hd2;have gc:=OF (z:=n) (w:=(d:Int)) aa (by simpa using W4 hd2 ae);rw[iC,Int.natAbs_natCast]at gc;obtain⟨g,hgg⟩:=nmQ (Nat.gcd n.natAbs d);have hg:0<g:=by rw[hgg];exact Yg _ hd
  have hgd:g<=d:=V9 hd (by rw[hgg];exact Nat.gcd_dvd_right ..);have eq:dV n d=(n/(g:Int),d/g):=by unfold dV;rw[<-hgg]
  rw[<-hgg]at gc;rw[eq];have ng:ndg g<900000:=Zu (mC hgd) aa;have d1:=Dp (z:=n) hg aa ng;have d2:=Jt (a:=d) hg aa ng;simp;refine cd gc ?_;by_cases h1:g=1
  .subst h1;rw[pB];simp;refine dy (l:=[S (itoa n),S (ag d)]) (h:=[(1,.vars [.d (.str []),.d (.str [])])]) (fun q=>by simp) ?_;simp;refine ky af af
  .have h49:¬ag g=[49]:=fun h=>h1 (nZ (h.trans pB.symm))
   simp[h49];refine aE ?_;simp[h49];refine cd d1 ?_;simp;refine cd d2 ?_;simp;exact ky rfl rfl
 simp[b6];refine cd sg0 ?_;by_cases hneg:d<0
 .have s1:sgn d = -1:=by unfold sgn;rw[if_neg hd,if_pos hneg]
  rw[s1];have hd3:ndg (-d).natAbs<800000:=by rw[Wq];exact hd2
  have n1:=Om (z:=n) aa;have n2:=Om (z:=d) aa;have e:KD n d=dV (-n) d.natAbs:=if_pos hneg;have ed:itoa (-d)=ag d.natAbs:=by rw[show -d=((d.natAbs:Nat):Int) by omega,iC]
  rw[e];rw[ed]at n2;simp;refine aE ?_;simp;refine cd n1 ?_;simp;refine cd n2 ?_;have:=tail (-n) d.natAbs aa (by rw[Wq];exact hn) hd2;simpa using this
 .have s1:sgn d=1:=by unfold sgn;rw[if_neg hd,if_neg hneg]
  rw[s1];have e:KD n d=dV n d.natAbs:=if_neg hneg;have ed:itoa d=ag d.natAbs:=by conv=>lhs;rw[show d=((d.natAbs:Nat):Int) by omega,iC]
  rw[e,ed];simp;refine aE ?_;simp;have:=tail n d.natAbs aa hn hd2;simpa using this
theorem uG(a:Q):CP Y F.dF [.agg (qT a)] (.tup [I (if sdg a.1<=9 then a.1 else 0),I (if ndg a.2<=9 then a.2 else 0),B (decide (sdg a.1<=9)&&decide (ndg a.2<=9))]):=by
 refine Cp ?_;have l1:=El a.1;have l2:=El (a.2:Int);have e:sdg (a.2:Int)=ndg a.2:=by unfold sdg;rw[if_neg aa,Int.natAbs_natCast];rfl
 rw[iC,e]at l2;simp[dF,qT];refine cd l1 ?_;by_cases h1:sdg a.1<=9
 .rw[if_pos h1,if_pos h1,decide_eq_true h1];simp;refine cd l2 ?_;by_cases h2:ndg a.2<=9
  .rw[if_pos h2,if_pos h2,decide_eq_true h2];simp;exact mA rfl rfl rfl
  .rw[if_neg h2,if_neg h2,decide_eq_false h2];simp;exact mA rfl rfl rfl
 .rw[if_neg h1,if_neg h1,decide_eq_false h1];simp;refine cd l2 ?_;by_cases h2:ndg a.2<=9
  .rw[if_pos h2,if_pos h2,decide_eq_true h2];simp;exact mA rfl rfl rfl
  .rw[if_neg h2,if_neg h2,decide_eq_false h2];simp;exact mA rfl rfl rfl
theorem xB(n:Int)(hd:0<d):(dV n d).1*(d:Int)=n*((dV n d).2:Int)∧0<(dV n d).2:=by
 obtain⟨g,hg⟩:=nmQ (Nat.gcd n.natAbs d);have hg0:0<g:=by rw[hg];exact Yg _ hd
 obtain⟨d',hd'⟩:g∣d:=by rw[hg];exact Nat.gcd_dvd_right ..
 obtain⟨n',hn'⟩:(g:Int)∣n:=Nl (by rw[hg];exact W7 ..)
 have e1:(dV n d).1=n':=by
  simp only[dV,<-hg];rw[hn'];exact Int.mul_ediv_cancel_left _ aa
 have e2:(dV n d).2=d':=by
  simp only[dV,<-hg];rw[hd'];exact Nat.mul_div_cancel_left _ hg0
 rw[e1,e2];refine⟨?_,?_⟩
 .rw[hn',hd',Int.natCast_mul,<-Int.mul_assoc,Int.mul_comm n' g]
 .rcases Zl d' with h|h
  .rw[h]at hd';omega
  .exact h
theorem Eg(h:0<d):KD n (d:Int)=dV n d:=by rfl
theorem Ox(hd:0<d)(hn:ndg n.natAbs<800000)(hd2:ndg d<800000):CP Y F.b6 [S (itoa n),S (ag d)] (.agg (qT (dV n d))):=by have:=GU (n:=n) (d:=(d:Int)) aa hn (by trivial);trivial
theorem Gl{b:Nat}(hz:ndg z.natAbs<400000)(hb:ndg b<400000):CP Y F.cW [S (itoa z),S (ag b)] (S (itoa (z*b))):=by grind[wn,iC]
theorem HN(h:Hp)(s t:LuQ):av h [.agg [S s,S t]]=some ([.agg [S s,S t]],h):=by rfl
theorem HP(h1:sdg a.1<=9)(h2:ndg a.2<=9):a.1.natAbs<1000000000∧a.2<1000000000:=
 ⟨uV h1,Z3 (ci _) (Z6 ae h2)⟩
theorem K2(ha:okQ a)(hb:okQ b)(la:qL 100000 a)(lb:qL 100000 b):CP Y F.mj [.agg (qT a),.agg (qT b)] (.agg (qT (nW a b))):=by
 refine EB ?_;obtain⟨la1,la2⟩:=la;obtain⟨lb1,lb2⟩:=lb;have b1:=uG a;have b2:=uG b;have m1:=wn (z:=a.1) (w:=b.1) aa aa;have m2:=yU (a:=a.2) (b:=b.2) aa aa;have n1:=eA (z:=a.1) (w:=b.1);have n2:=zw (a:=a.2) (b:=b.2);have hd:0<a.2*b.2:=Y4 ha.1 hb.1
 have lw:CP Y F.b6 [S (itoa (a.1*b.1)),S (ag (a.2*b.2))] (.agg (qT (nW a b))):=Ox (n:=a.1*b.1) hd aa aa;have ff:(a.1*b.1).natAbs<9223372036854775807->a.2*b.2<9223372036854775807->CP Y F.jB [I (a.1*b.1),I (a.2*b.2:Nat)] (.agg (qT (nW a b))):=fun h1 h2=>OI hd h1 h2
 obtain⟨x,y,hxy⟩:∃x y,qT (nW a b)=[S x,S y]:=⟨_,_,rfl⟩;rw[hxy]at lw ff ⊢;simp only[qT]at b1 b2 ⊢
 have tail:∀u:Unit,cal (CX Y).p [(1,.vars [S (itoa a.1),S (ag a.2)]),(1,.vars [S (itoa b.1),S (ag b.2)]),(1,.vars [.d (.str []),.d (.str [])])] (.fn F.cW [] []) [S (itoa a.1),S (itoa b.1)] fun v15 h=>
  bnd (faV 1 (.ptr 0 1 0 2)) fun v16=>
  bnd (ld1 h v16) fun v17=>
  bnd (faV 1 (.ptr 1 1 0 2)) fun v18=>
  bnd (ld1 h v18) fun v19=>
  cal (CX Y).p h (.fn F.cW [] []) [v17,v19] fun v20 h=>
  cal (CX Y).p h (.fn F.b6 [] []) [v15,v20] fun v21 h=>
  stD h 2 (.ptr 2 1 0 2) v21 fun _ h=>
  bnd (ldA h 2 (.ptr 2 1 0 2)) fun v23=>
  out (.agg [S x,S y]) v23 h:=by
  intro _;simp;refine cd m1 ?_;simp;refine cd m2 ?_;simp;refine cd lw ?_;simp;exact ky rfl rfl
 simp[mj];refine cd b1 ?_ (HN ..);cases g1:decide (sdg a.1<=9)&&decide (ndg a.2<=9)with
 | false=>
  simp;refine aE ?_;simp
  simp_all
 | true=>
  simp only[Z8,decide_eq_true_eq]at g1;obtain⟨s1,s2⟩:=HP g1.1 g1.2;rw[if_pos g1.1,if_pos g1.2];simp;refine aE ?_;simp;refine cd b2 ?_ (HN ..);cases g2:decide (sdg b.1<=9)&&decide (ndg b.2<=9)with
  | false=>
   simp
   simp_all
  | true=>
   simp only[Z8,decide_eq_true_eq]at g2;obtain⟨s3,s4⟩:=HP g2.1 g2.2;rw[if_pos g2.1,if_pos g2.2];have p1:(a.1*b.1).natAbs<1000000000*1000000000:=by rw[Y3];exact Y6 s1 s3
   have p2:a.2*b.2<1000000000*1000000000:=Y6 s2 s4;have e2:(a.2:Int)*(b.2:Int)=((a.2*b.2:Nat):Int):=af;have ff:=ff aa aa;obtain⟨N,hN⟩:=mnQ (a.1*b.1);rw[hN]at p1 ff;generalize a.2*b.2=D at *;simp(disch:=try exact ac)[e2,hN];refine cd ff ?_;simp;simp[ky]
theorem K4(ha:okQ a)(hb:okQ b)(la:qL 100000 a)(lb:qL 100000 b):CP Y F.iv [.agg (qT a),.agg (qT b)] (.agg (qT (qR a b))):=by
 refine EF ?_;obtain⟨la1,la2⟩:=la;obtain⟨lb1,lb2⟩:=lb;have b1:=uG a;have b2:=uG b;have m1:=Gl (z:=a.1) (b:=b.2) aa aa;have m2:=Gl (z:=b.1) (b:=a.2) aa aa;have m3:=yU (a:=a.2) (b:=b.2) aa aa;have n1:=eA (z:=a.1) (w:=(b.2:Int));have n2:=eA (z:=b.1) (w:=(a.2:Int))
 have n3:=zw (a:=a.2) (b:=b.2);rw[Int.natAbs_natCast]at n1 n2;have n4:ndg (a.1*b.2+b.1*a.2).natAbs<=200000+1:=jA aa aa;have ad:=Dq (z:=a.1*b.2) (w:=b.1*a.2) aa aa;have hd:0<a.2*b.2:=Y4 ha.1 hb.1
 have lw:CP Y F.b6 [S (itoa (a.1*b.2+b.1*a.2)),S (ag (a.2*b.2))] (.agg (qT (qR a b))):=Ox hd aa aa;have ff:(a.1*b.2+b.1*a.2).natAbs<9223372036854775807->a.2*b.2<9223372036854775807->CP Y F.jB [I (a.1*b.2+b.1*a.2),I (a.2*b.2:Nat)] (.agg (qT (qR a b))):=fun h1 h2=>OI hd h1 h2
 by_cases one:a.2=1∧b.2=1
 .have ad1:=Dq (z:=a.1) (w:=b.1) aa aa
  have eq:qR a b=(a.1+b.1,1):=by
   unfold qR;rw[one.1,one.2];rw[Eh af];simp
  rw[eq];have t1:qT a=[S (itoa a.1),S [49]]:=by unfold qT;rw[one.1,pB]
  have t2:qT b=[S (itoa b.1),S [49]]:=by unfold qT;rw[one.2,pB]
  have t3:qT (a.1+b.1,1)=[S (itoa (a.1+b.1)),S [49]]:=by unfold qT;rw[pB]
  rw[t1,t2,t3];simp[iv];refine cd ad1 ?_;simp;simp[ky]
 obtain⟨x,y,hxy⟩:∃x y,qT (qR a b)=[S x,S y]:=⟨_,_,rfl⟩;rw[hxy]at lw ff ⊢;simp only[qT]at b1 b2 ⊢
 have tail:∀u:Unit,cal (CX Y).p [(1,.vars [S (itoa a.1),S (ag a.2)]),(1,.vars [S (itoa b.1),S (ag b.2)]),(1,.vars [.d (.str []),.d (.str [])])] (.fn F.cW [] []) [S (itoa a.1),S (ag b.2)] fun v30 h=>
   bnd (faV 0 (.ptr 1 1 0 2)) fun v31=>
   bnd (ld1 h v31) fun v32=>
   bnd (faV 1 (.ptr 0 1 0 2)) fun v33=>
   bnd (ld1 h v33) fun v34=>
   cal (CX Y).p h (.fn F.cW [] []) [v32,v34] fun v35 h=>
   cal (CX Y).p h (.fn F.j6 [] []) [v30,v35] fun v36 h=>
   bnd (faV 1 (.ptr 0 1 0 2)) fun v37=>
   bnd (ld1 h v37) fun v38=>
   bnd (faV 1 (.ptr 1 1 0 2)) fun v39=>
   bnd (ld1 h v39) fun v40=>
   cal (CX Y).p h (.fn F.cW [] []) [v38,v40] fun v41 h=>
   cal (CX Y).p h (.fn F.b6 [] []) [v36,v41] fun v42 h=>
   stD h 2 (.ptr 2 1 0 2) v42 fun _ h=>
   bnd (ldA h 2 (.ptr 2 1 0 2)) fun v44=>
   out (.agg [S x,S y]) v44 h:=by
  intro _;simp;refine cd m1 ?_;simp;refine cd m2 ?_;simp;refine cd ad ?_;simp;refine cd m3 ?_;simp;refine cd lw ?_;simp;exact ky rfl rfl
 have hne:¬(ag a.2=[49]∧ag b.2=[49]):=fun h=>one ⟨nZ (h.1.trans pB.symm),nZ (h.2.trans pB.symm)⟩
 have walk:∀u:Unit,bnd (ldA [(1,.vars [S (itoa a.1),S (ag a.2)]),(1,.vars [S (itoa b.1),S (ag b.2)]),(1,.vars [.d (.str []),.d (.str [])])] 2 (.ptr 0 1 0 2)) fun v19=>
  cal (CX Y).p [(1,.vars [S (itoa a.1),S (ag a.2)]),(1,.vars [S (itoa b.1),S (ag b.2)]),(1,.vars [.d (.str []),.d (.str [])])] (.fn F.dF [] []) [v19] fun v20 h=>
  ext v20 0 fun v21=>
  ext v20 1 fun v22=>
  ext v20 2 fun v23=>
  jn (fun l24 h=>
   bnd (faV 0 (.ptr 0 1 0 2)) fun v26=>
   bnd (ld1 h v26) fun v27=>
   bnd (faV 1 (.ptr 1 1 0 2)) fun v28=>
   bnd (ld1 h v28) fun v29=>
   cal (CX Y).p h (.fn F.cW [] []) [v27,v29] fun v30 h=>
   bnd (faV 0 (.ptr 1 1 0 2)) fun v31=>
   bnd (ld1 h v31) fun v32=>
   bnd (faV 1 (.ptr 0 1 0 2)) fun v33=>
   bnd (ld1 h v33) fun v34=>
   cal (CX Y).p h (.fn F.cW [] []) [v32,v34] fun v35 h=>
   cal (CX Y).p h (.fn F.j6 [] []) [v30,v35] fun v36 h=>
   bnd (faV 1 (.ptr 0 1 0 2)) fun v37=>
   bnd (ld1 h v37) fun v38=>
   bnd (faV 1 (.ptr 1 1 0 2)) fun v39=>
   bnd (ld1 h v39) fun v40=>
   cal (CX Y).p h (.fn F.cW [] []) [v38,v40] fun v41 h=>
   cal (CX Y).p h (.fn F.b6 [] []) [v36,v41] fun v42 h=>
   stD h 2 (.ptr 2 1 0 2) v42 fun _ h=>
   bnd (ldA h 2 (.ptr 2 1 0 2)) fun v44=>
   out (.agg [S x,S y]) v44 h) fun q25=>
   cnd v23 (
    bnd (ldA h 2 (.ptr 1 1 0 2)) fun v45=>
    cal (CX Y).p h (.fn F.dF [] []) [v45] fun v46 h=>
    ext v46 0 fun v47=>
    ext v46 1 fun v48=>
    ext v46 2 fun v49=>
    cnd v49 (
     bnd (biI .mul v21 v48) fun v50=>
     bnd (biI .mul v47 v22) fun v51=>
     bnd (biI .add v50 v51) fun v52=>
     bnd (biI .mul v22 v48) fun v53=>
     cal (CX Y).p h (.fn F.jB [] []) [v52,v53] fun v54 h=>
     stD h 2 (.ptr 2 1 0 2) v54 fun _ h=>
     bnd (ldA h 2 (.ptr 2 1 0 2)) fun v56=>
     out (.agg [S x,S y]) v56 h) (
     q25 [] h)) (
    q25 [] h):=by
  intro _;simp;refine cd b1 ?_ (HN ..);cases g1:decide (sdg a.1<=9)&&decide (ndg a.2<=9)with
  | false=>
   simp;refine aE ?_;simp
   simp_all
  | true=>
   simp only[Z8,decide_eq_true_eq]at g1;obtain⟨s1,s2⟩:=HP g1.1 g1.2;rw[if_pos g1.1,if_pos g1.2];simp;refine aE ?_;simp;refine cd b2 ?_ (HN ..);cases g2:decide (sdg b.1<=9)&&decide (ndg b.2<=9)with
   | false=>
    simp
    simp_all
   | true=>
    simp only[Z8,decide_eq_true_eq]at g2;obtain⟨s3,s4⟩:=HP g2.1 g2.2;rw[if_pos g2.1,if_pos g2.2];have p1:(a.1*b.2).natAbs<1000000000*1000000000:=by rw[Y3,Int.natAbs_natCast];exact Y6 s1 s4
    have p3:(b.1*a.2).natAbs<1000000000*1000000000:=by rw[Y3,Int.natAbs_natCast];exact Y6 s3 s2
    have p2:a.2*b.2<1000000000*1000000000:=Y6 s2 s4;have e2:(a.2:Int)*(b.2:Int)=((a.2*b.2:Nat):Int):=af;have ff:=ff aa aa;obtain⟨N,hN⟩:∃N,a.1*(b.2:Int)=N:=⟨_,rfl⟩;obtain⟨M,hM⟩:∃M,b.1*(a.2:Int)=M:=⟨_,rfl⟩;rw[hN]at p1 ff;rw[hM]at p3 ff;generalize a.2*b.2=D at *;simp(disch:=try exact ac)[e2,hN,hM];refine cd ff ?_;simp
    simp[ky]
 by_cases c1:ag a.2=[49]
 .have c2:¬ag b.2=[49]:=fun h=>hne ⟨c1,h⟩
  simp[iv,c1,c2]
  simp_all
 .simp[iv,c1]
  simp_all
theorem rR(a:Q):CP Y F.fA [.agg (qT a)] (I (sgn a.1)):=by refine Cq ?_;simp[fA,qT];refine cd (t8 a.1) ?_;exact cF rfl
theorem Rc(z:Int):sgn z=0↔z=0:=by
 unfold sgn;constructor
 .intro h;split at h
  .assumption
  .split at h<;>omega
 .intro h;rw[if_pos h]
theorem Sn{a b:LuQ}{h:Hp}:out (.tup [.agg [S a,S b],I c]) (.tup [.agg [S a,S b],I c]) h:=⟨h,by simp[aP,av,norm]⟩
theorem K0{d:Int}(hd:d≠0)(hn:ndg n.natAbs<800000)(hd2:ndg d.natAbs<800000):CP Y F.mh [S (itoa n),S (itoa d)] (.tup [.agg (qT (KD n d)),I 0]):=by
 refine EA ?_;have sg0:=t8 d;have hs:¬sgn d=0:=fun h=>hd ((Rc _).1 h)
 have lw:=GU hd hn hd2;obtain⟨x,y,hxy⟩:∃x y,qT (KD n d)=[S x,S y]:=⟨_,_,rfl⟩;rw[hxy]at lw ⊢;generalize sgn d=sb at *;simp[mh];refine cd sg0 ?_;simp[hs];refine cd lw ?_;simp;exact Sn
theorem C6{n:Nat}(h0:0<n)(h:n<1000000000):dig Z n=[n]:=by rw[Lo h0];have hZ:Z=1000000000:=rfl;rw[hZ,Zj h,Zh h,pS]
def frT(a:Int)(d:Nat):LuQ×LuQ:=(itoa (a.tdiv (Nat.gcd a.natAbs d)),itoa ((d/Nat.gcd a.natAbs d:Nat):Int))
def txV(x:LuQ×LuQ):V:=.agg [S x.1,S x.2]
theorem KJ(k:KL):∀(y x:Nat)(h0 h:Hp),h0.length=h.length->(k (.exit 0) [I (Nat.gcd x y)] h)->lp (gz (CX Y)) [] h0 [I x,I y] h k:=by
 intro y
 induction y using Nat.strongRecOn with
 | _ y ih=>
  intro x h0 h hh hk;refine ai ?_;by_cases hy:y=0
  .subst hy;simp(disch:=try exact ac)[gz];simpa using hk
  .have hm:=Zk x (Xu hy);have e:(x:Int).tmod (y:Int)=((x%y:Nat):Int):=by rw[Z4 aa];simp
   have hg:Nat.gcd y (x%y)=Nat.gcd x y:=by rw[X2 y,<-V8,X2]
   have:=ih (x%y) hm y h0 h hh (by rw[hg];exact hk);simp(disch:=try exact ac)[gz,e,hh];simpa using this
theorem P5{s:Bool}{n:Nat}(hn:n<1000000000)(hd0:0<d)(hd:d<1000000000):CP Y F.fh [wh s n,I d] (txV (itoa (if s then -((n/Nat.gcd n d:Nat):Int)else((n/Nat.gcd n d:Nat):Int)),itoa ((d/Nat.gcd n d:Nat):Int))):=by
 refine vJ ?_;obtain⟨g,hg⟩:=mnQ (Nat.gcd n d);have hg0:0<g:=by rw[<-hg];exact Yg _ hd0
 have e1:(n:Int).tdiv (g:Int)=((n/g:Nat):Int):=by rw[Z1 aa];simp
 have e2:(d:Int).tdiv (g:Int)=((d/g:Nat):Int):=by rw[Z1 aa];simp
 have l1:=Y5 n g;have l2:=Y5 d g;rw[hg];obtain⟨n',hn'⟩:=mnQ (n/g);obtain⟨d',hd'⟩:=mnQ (d/g);rw[hn']at e1 l1 ⊢;rw[hd']at e2 l2 ⊢;have hg0':¬(g:Int)=0:=aa;have ha:∀z:Int,-1000000000<z∧z<1000000000->CP Y F.bW [I z] (S (itoa z)):=fun z hz=>GI aa aa
 have hb:=ha (d':Int) aa;have hloop:=KJ
 have main:∀(H:Hp),H.length=2->H=[(1,.vars [.d (.bool s),bu n]),(1,.vars [S [],S []])]->lp (gz (CX Y)) [] H [I n,I d] H (exK [((.exit 0),fun l9 h=>
   bnd (biI .quo (I n) (ge l9 0)) fun v10=>
   bnd (biI .quo (I d) (ge l9 0)) fun v11=>
   bnd (faV 0 (.ptr 0 1 0 2)) fun v12=>
   bnd (ld1 h v12) fun v13=>
   jn (fun l14 h=>
    cal (CX Y).p h (.fn F.bW [] []) [(ge l14 0)] fun v16 h=>
    cal (CX Y).p h (.fn F.bW [] []) [v11] fun v17 h=>
    bnd (bld [(0,1),(1,1)] [.str [],.str []] [(0,v16),(1,v17)]) fun v18=>
    stD h 2 (.ptr 1 1 0 2) v18 fun _ h=>
    bnd (ldA h 2 (.ptr 1 1 0 2)) fun v20=>
    out (txV (itoa (if s then -(n':Int)else(n':Int)),itoa (d':Int))) v20 h) fun q15=>
    cnd v13 (
     bnd (unV .neg v10) fun v21=>
     q15 [v21] h) (
     q15 [v10] h))]):=by
  intro H hH hHe;refine hloop _ d n H H rfl ?_;rw[hg];subst hHe
  have hfin:∀z:Int,-1000000000<z∧z<1000000000->∀h:Hp,h=[(1,.vars [.d (.bool s),bu n]),(1,.vars [S [],S []])]->(cal (CX Y).p h (.fn F.bW [] []) [I z] fun v16 h=>
    cal (CX Y).p h (.fn F.bW [] []) [I (d':Int)] fun v17 h=>
    bnd (bld [(0,1),(1,1)] [.str [],.str []] [(0,v16),(1,v17)]) fun v18=>
    stD h 2 (.ptr 1 1 0 2) v18 fun _ h=>
    bnd (ldA h 2 (.ptr 1 1 0 2)) fun v20=>
    out (txV (itoa z,itoa (d':Int))) v20 h):=by
   intro z hz h hh;subst hh;simp(disch:=try exact ac);refine cd (ha z hz) ?_;simp(disch:=try exact ac);refine cd hb ?_;simp(disch:=try exact ac);exact pd (by simp[aP,av,txV])
  cases s
  .simp(disch:=try exact ac)[e1,e2];refine aE ?_;exact hfin (n':Int) aa _ rfl
  .simp(disch:=try exact ac)[e1,e2];refine aE ?_;have hw:IntKind.wrap .i64 (-(n':Int)) = -(n':Int):=pu aa aa;simp(disch:=try exact ac)[hw];have:=hfin (-(n':Int)) aa _ rfl;simp(disch:=try exact ac)at this;exact this
 by_cases h0:n=0
 .subst h0;have hdz:bu 0=.d (.sl 0 []):=rfl;have:=main _ rfl rfl;rw[hdz]at this;have hlz:aj (.d (.sl 0 []))=some (I 0):=rfl;simp(disch:=try exact ac)[fh,wh,hdz,hlz];refine aE ?_;simp(disch:=try exact ac);exact this
 .have hd1:=C6 aa hn;have hdz:bu n=lst i9 [n]:=by unfold bu;rw[hd1]
  have:=main _ rfl rfl;rw[hdz]at this;have hix:∀h:Hp,ixV h 1 (lst i9 [n]) (.d (.int .i64 0))=some (.dptr ([n].map i9) 0):=fun h=>rfl
  have hld:∀h:Hp,ld1 h (.dptr ([n].map i9) 0)=some (I n):=fun h=>rfl
  simp(disch:=try exact ac)[fh,wh,hdz];refine aE ?_;simp(disch:=try exact ac)[hix,hld];exact this
theorem Ov{a:Int}(ha:a.natAbs<1000000000)(hd0:0<d)(hd:d<1000000000):CP Y F.bY [iH a,iH (d:Int)] (txV (frT a d)):=by
 refine re ?_;have hsg:=DO (s:=decide ((d:Int)<0)) (n:=((d:Int).natAbs)) (by rw[Int.natAbs_natCast];unfold bz;rw[C6 hd0 hd];simp);have hl:=P5 (s:=decide (a<0)) ha hd0 hd
 have hres:txV (itoa (if decide (a<0)=true then -((a.natAbs/Nat.gcd a.natAbs d:Nat):Int)else((a.natAbs/Nat.gcd a.natAbs d:Nat):Int)),itoa ((d/Nat.gcd a.natAbs d:Nat):Int))=txV (frT a d):=by
  unfold frT;congr 3;by_cases h:a<0
  .simp only[h,decide_true,if_true];obtain⟨n,rfl⟩:∃n:Nat,a = -(n:Int):=⟨a.natAbs,aa⟩;rw[Wq,Int.natAbs_natCast,Int.neg_tdiv];congr 1
  .simp only[h,decide_false,Zi,if_false];obtain⟨n,rfl⟩:∃n:Nat,a=(n:Int):=⟨a.natAbs,aa⟩;rw[Int.natAbs_natCast];rfl
 rw[hres]at hl
 have hdw:iH (d:Int)=.agg [.d (.bool false),lst i9 [d]]:=by
  unfold iH wh bu;rw[Int.natAbs_natCast,C6 hd0 hd];simp
 have hsg':CP Y F.bJ [.agg [.d (.bool false),lst i9 [d]]] (I 1):=by
  rw[show wh (decide ((d:Int)<0)) (d:Int).natAbs=iH (d:Int)from rfl,hdw]at hsg;rw[if_neg aa]at hsg;simpa[show ¬(d:Int)<0 by omega]using hsg
 rw[hdw];have hix:∀h:Hp,ixV h 1 (lst i9 [d]) (.d (.int .i64 0))=some (.dptr ([d].map i9) 0):=fun h=>rfl
 have hld:∀h:Hp,ld1 h (.dptr ([d].map i9) 0)=some (I d):=fun h=>rfl
 have hla:∃j:Nat,aj (bu a.natAbs)=some (I j)∧j<=1:=by
  by_cases h0:a.natAbs=0
  .exact⟨0,by rw[h0];rfl,aa⟩
  .exact⟨1,by unfold bu;rw[C6 aa ha];rfl,aa⟩
 obtain⟨j,hj,hj1⟩:=hla;obtain⟨s9,hs9⟩:=mnQ (decide (a<0));unfold iH;rw[hs9]at hl ⊢;have hok9:=zq a.natAbs;simp(disch:=try exact ac)[bY,wh];refine cd hsg' ?_ (by simp[av,aP]);simp(disch:=try exact ac);refine aE ?_;simp(disch:=try exact ac)[hj,hix,hld]
 refine cd (args:=[.agg [.d (.bool s9),bu a.natAbs],I d]) hl ?_ (by simp[av,aP,bu]);simp(disch:=try exact ac)[txV];exact pd (by simp[aP,av])
theorem WC{a:Int}(ha:a.natAbs<1000000000)(hd0:0<d)(hd:d<1000000000):CP Y F.iL [I a,I d] (txV (frT a d)):=by
 refine xV ?_;simp(disch:=try exact ac)[iL];refine cd (ME (z:=a) aa aa) ?_;simp(disch:=try exact ac);refine cd (ME (z:=(d:Int)) aa aa) ?_;simp(disch:=try exact ac);refine cd (Ov ha hd0 hd) ?_ (by simp[av,aP,iH,wh,bu])
 simp(disch:=try exact ac)[txV];exact pd (by simp[aP,av])
def isR(v:V)(r:Nat):Prop:=v=bu r∨(v=.d nPQ∧r=0)
def rH(o:LnQ)(y1 y2:Nat×Bk):Hp:=[(1,.data 1 (o.map i9) true false),y1,y2]
theorem Qt{o:LnQ}{rv:V}(hrv:isR rv r)(hx:x<Z)(hr:bz r<100000000){k:kkQ}{u:PU fun v8 h=>bnd (bld [(0,1),(1,1)] [.bool false,nPQ] [(1,v8)]) fun v9=>
   cal (CX Y).p h (.fn F.aK [] []) [v9] fun v10 h=>
   bnd (fiV 1 1 true v10) fun v11=>k v11 h}(hk:∀y1 y2:Nat×Bk,k (bu (x+Z*r)) (rH o y1 y2)):
  rh (apV false 2 1 8 (.ref 1 1 0 1 1 1) rv ((rH o nnQ nnQ).set 1 (1,.data 1 [i9 x] true false))) (fun v8 h=>
   bnd (bld [(0,1),(1,1)] [.bool false,nPQ] [(1,v8)]) fun v9=>
   cal (CX Y).p h (.fn F.aK [] []) [v9] fun v10 h=>
   bnd (fiV 1 1 true v10) fun v11=>k v11 h) u:=by
 have hsm:aw Z (x::dig Z r):=fun y hy=>by
  rcases Zc.1 hy with rfl|hy
  .exact hx
  .exact aJ ah r y hy
 have hval:val Z (x::dig Z r)=x+Z*r:=by simp only[val,bG ah]
 have t:=qH (s:=false) hsm (by simp;unfold bz at hr;omega);rw[hval]at t
 have hli:∀h:Hp,fj 1 [D.int .i64 0] [(0,I x)] h=some ([i9 x],h):=fun h=>by
  simp[fj,fS,hO,toD,i9]
 have fin:∀(s m:Nat)(y1 y2 z1 z2:Nat×Bk),aP (rH o y1 y2) (.ref s 1 0 m m m)=some (lst i9 (x::dig Z r),rH o z1 z2)->(bnd (bld [(0,1),(1,1)] [.bool false,nPQ] [(1,.ref s 1 0 m m m)]) fun v9=>
   cal (CX Y).p (rH o y1 y2) (.fn F.aK [] []) [v9] fun v10 h=>
   bnd (fiV 1 1 true v10) fun v11=>k v11 h):=by
  intro s m y1 y2 z1 z2 hs;simp(disch:=try exact ac);refine cdz (ds:=[.agg [.d (.bool false),lst i9 (x::dig Z r)]]) (h':=rH o z1 z2) (by simp only[av];rw[show aP (rH o y1 y2) (.agg [.d (.bool false),.ref s 1 0 m m m])=some (.agg [.d (.bool false),lst i9 (x::dig Z r)],rH o z1 z2) by simp only[aP,av];simp only[aP]at hs;rw[hs];rfl]) t ?_
  simp(disch:=try exact ac)[wh];exact hk z1 z2
 have s1:aP (rH o (1,.data 1 [i9 x] true false) nnQ) (.ref 1 1 0 1 1 1)=some (lst i9 [x],rH o (1,.data 1 [i9 x] true true) nnQ):=by
  simp[aP,toD,rH,aH,lst]
 rcases hrv with rfl|⟨rfl,rfl⟩
 .refine O1 (L:=1) (k:=(dig Z r).length) (cs:=(dig Z r).map i9) (old:=[i9 x]) (e':=0) (b':=.none) rfl rfl rfl rfl af (by unfold bz at hr;omega) (fun h=>?_) fun h=>?_
  .have:dig Z r=[]:=Zt h;rw[this]at fin;exact fin 1 1 _ _ _ _ s1
  .have e1:1*1+((dig Z r).map i9).length=1+(dig Z r).length:=af;rw[e1];refine fin 2 (1+(dig Z r).length) (1,.data 1 [i9 x] true false) (1,.data 1 ([i9 x]++(dig Z r).map i9) false false) (1,.data 1 [i9 x] true false) (1,.data 1 ([i9 x]++(dig Z r).map i9) false true) ?_;simp[aP,toD,rH,aH,lst,Yf];rw[Z0 ak]
 .rw[pS]at fin;unfold rh apV;simp only[cellsOf];rw[if_pos af];unfold apC;rw[if_pos rfl];simp only[Z7,if_true];exact fin 1 1 _ _ _ _ s1
@[simp] theorem abQ {α:Type}(f:α->D)(l:List α)(place:Nat->Option (Nat×Nat))(cs:LwQ)(r:List (Nat×V))(off sz:Nat):
  w8 (some (off,sz)) place cs (lst f l) r=if 1=sz∧off+1<=cs.length then sG place (cs.take off++[lst f l]++cs.drop (off+1)) r else none:=id rfl
theorem Gr{b:Nat}(hb:bz b<100000000)(hd:d<Z):CP Y F.fM [bu b,I d] (bu (b*d)):=by
 refine wC ?_;have hsm:aw Z [d]:=fun x hx=>by simp at hx;omega
 have t:=qH (s:=false) hsm af;rw[show val Z [d]=d by simp[val]]at t
 have hli:∀h:Hp,fj 1 [D.int .i64 0] [(0,I d)] h=some ([i9 d],h):=fun h=>by
  simp[fj,fS,hO,toD,i9]
 have m:=qD (x:=b) (y:=d) ak (by simp;have:=rE (n:=d) (k:=1) (by simpa using hd);omega);have e1:iH (b:Int)=wh false b:=Nu af af;have e2:iH (d:Int)=wh false d:=Nu af af
 have e3:iH ((b:Int)*(d:Int))=wh false (b*d):=by
  exact Nu (by simp;exact Int.mul_nonneg aa aa) (by rw[Y3];simp)
 rw[e1,e2,e3]at m;simp(disch:=try exact ac)[fM,bu,hli];refine cd (args:=[.agg [.d (.bool false),lst i9 [d]]]) t ?_ (by simp[av,aP]);simp(disch:=try exact ac)[wh,bu];refine cd (args:=[wh false b,wh false d]) m ?_ (by simp[av,aP,wh,bu]);simp(disch:=try exact ac)[wh,bu];exact rD ..
theorem Qd{b n:Nat}(hb:0<b)(hbl:bz b<100000000)(hnl:bz n<100000000)(k:KL)(H h0:Hp)(hh:h0.length=H.length):∀(N lo hi:Nat),hi<=lo+N->lo<hi->hi<=Z->lo*b<=n->n<hi*b->k (.exit 2) [I (n/b:Nat)] H ->
  lp (gA (CX Y) (bu b) (bu n)) [] h0 [I lo,I hi] H k:=by
 intro N
 induction N with
 |zero=>intro lo hi h1 h2;omega
 | succ N ih=>
  intro lo hi h1 h2 h3 h4 h5 hk;have hZ:Z=1000000000:=rfl;by_cases g:(1:Int)<(hi:Int)-lo
  .obtain⟨mid,hm⟩:=mnQ ((lo+hi)/2);have e1:((lo:Int)+(hi:Int))/2=(mid:Int):=aa;have hmZ:mid<Z:=aa;have t:=Gr (b:=b) (d:=mid) hbl hmZ
   have hlb:bz (b*mid)<2^40:=by
    have h6:b*mid<Z^(bz b+1):=by
     rw[Nat.pow_succ];exact Nat.mul_lt_mul_of_lt_of_lt (mg b) hmZ
    have:=rE h6;have h40:(2:Nat)^40=1099511627776:=ae;omega
   have h40:(2:Nat)^40=1099511627776:=ae;have ab:=FC (a:=b*mid) (b:=n) hlb aa;by_cases hle:b*mid<=n
   .have hc:cmp (b*mid) n<=0:=by unfold cmp;split;decide;rw[if_neg aa];decide
    have ihh:=ih mid hi aa aa h3 (by rw[Zw];exact hle) h5 hk;refine ai ?_;have hhib:hi<=1000000000:=aa;simp(disch:=try exact ac)[gA,g,Z1,e1];refine aE ?_;simp(disch:=try exact ac)[Z1,e1];refine cd t ?_ (by simp[av,bu])
    simp(disch:=try exact ac);refine cd ab ?_ (by simp[av,bu]);simp(disch:=try exact ac)[hc];refine aE ?_;simp(disch:=try exact ac)[hc,hh];exact ihh
   .have hc:¬cmp (b*mid) n<=0:=by unfold cmp;rw[if_neg aa,if_pos aa];decide
    have ihh:=ih lo mid aa aa aa h4 (by rw[Zw];omega) hk;refine ai ?_;have hhib:hi<=1000000000:=aa;simp(disch:=try exact ac)[gA,g,Z1,e1];refine aE ?_;simp(disch:=try exact ac)[Z1,e1];refine cd t ?_ (by simp[av,bu])
    simp(disch:=try exact ac);refine cd ab ?_ (by simp[av,bu]);simp(disch:=try exact ac)[hc];refine aE ?_;simp(disch:=try exact ac)[hc,hh];exact ihh
  ·have e:n/b=lo:=by
    have:hi=lo+1:=aa;subst this;refine Nat.div_eq_of_lt_le h4 ?_;exact h5
   rw[e]at hk;refine ai ?_;simp(disch:=try exact ac)[gA,g];exact hk
theorem RZ(o:LnQ)(y1 y2:Nat×Bk):(rH o y1 y2)[0]?=some (1,.data 1 (o.map i9) true false):=rfl
theorem Hl{al:LnQ}{b N:Nat}(hsa:aw Z al)(hal:al.length<10000000)(hN:N=al.length)(hb:0<b)(hbl:bz b<10000000)(o0:LnQ)(k:KL) :
  ∀(i:Nat)(o:LnQ)(r:Nat)(rv:V),i<=al.length->o.length=N->aw Z o->isR rv r->r<b->val Z (al.drop i)=b*val Z (o.drop i)+r->(∀j,j<i->nth 0 o j=0) ->
  (∀o' r' rv',o'.length=N->aw Z o'->isR rv' r'->r'<b->val Z al=b*val Z o'+r'->k (.exit 0) [rv'] (rH o' nnQ nnQ)) ->
  lp (gB (CX Y) (lst i9 al) (bu b) (.ref 0 1 0 N N N)) [1,2] (rH o0 nnQ nnQ) [rv,I ((i:Int)-1)] (rH o nnQ nnQ) k
 | 0,o,r,rv,hi,ho,hso,hrv,hr,hv,hz,hk=>by
  refine ai ?_;simp(disch:=try exact ac)[gB];exact hk o r rv ho hso hrv hr (by simpa using hv)
 | i+1,o,r,rv,hi,ho,hso,hrv,hr,hv,hz,hk=>by
  have hZ:Z=1000000000:=rfl;obtain⟨x,hx⟩:=mnQ (nth 0 al i);have hxs:x<Z:=by rw[<-hx];exact hsa.getD aU i
  have e1:=fun h:Hp=>qt i9 al h (k:=.i64) (i:=(i:Int)) aa aa
  have e2:=fun h:Hp=>lC i9 0 al h (j:=i) aa
  rw[hx]at e2;simp only[Int.toNat_natCast]at e1;have e0:((i+1:Nat):Int)-1=(i:Int):=aa
  have hli:∀h:Hp,fj 1 [D.int .i64 0] [(0,I x)] h=some ([i9 x],h):=fun h=>by
   simp[fj,fS,hO,toD,i9]
  have hg1:(rH o (0,Bk.none) (0,Bk.none))[1]?=some nnQ:=rfl
  have hlr:bz r<100000000:=by
   have:=rE (n:=r) (k:=bz b) (W4 hr (mg b));omega
  obtain⟨n,hn⟩:=mnQ (x+Z*r);obtain⟨q,hq⟩:=mnQ (n/b);obtain⟨r2,hr2⟩:=mnQ (n%b);have hdm:b*q+r2=n:=by rw[<-hq,<-hr2];exact Zb n b
  have hr2b:r2<b:=by rw[<-hr2];exact Zk _ hb
  have hnZb:n<Z*b:=by
   rw[<-hn];have:=Zy Z (show r+1<=b by omega);rw[Nat.mul_add]at this;omega
  have hqZ:q<Z:=by rw[<-hq];exact Y8 (by rw[Zw];exact hnZb)
  have hln:bz n<20000000:=by
   have:n<Z^(bz b+1):=by
    rw[Nat.pow_succ,Zw];exact W4 hnZb (Xk (mg b) aU)
   have:=rE this;omega
  have hdr:(o.set i q).drop i=q::o.drop (i+1):=by
   rw[List.drop_set,if_neg aa,Nat.sub_self];rw[Yr (show i<o.length by omega)];rfl
  have go:∀rv',isR rv' r2->∀y1 y2:Nat×Bk,lp (gB (CX Y) (lst i9 al) (bu b) (.ref 0 1 0 N N N)) [1,2] (rH o0 nnQ nnQ) [rv',I ((i:Int)-1)] (rH (o.set i q) nnQ nnQ) k:=fun rv' hrv' _ _=>
   Hl hsa hal hN hb hbl o0 k i (o.set i q) r2 rv' aa (by simpa using ho) (hso.set hqZ) hrv' hr2b (by
    rw[eV,show al.getD i 0=x from hx,hv,hdr];simp only[val];rw[Nat.mul_add,Nat.mul_add,Yt b Z];omega) (fun j hj=>by rw[vd aa];exact hz j aa) hk
  clear hk;have hst:∀y1 y2:Nat×Bk,ixV (rH o y1 y2) 1 (.ref 0 1 0 N N N) (I i)=some (.ptr 0 1 i N):=fun y1 y2=>ixB (RZ o y1 y2) ho aa .i64
  have hst2:∀y1 y2:Nat×Bk,st (rH o y1 y2) 1 (.ptr 0 1 i N) (I q)=some (rH (o.set i q) y1 y2):=fun y1 y2=>stB (f:=i9) (RZ o y1 y2) ho aa rfl
  have h40:(2:Nat)^40=1099511627776:=ae;have ab:=FC (a:=n) (b:=b) aa aa;have hreset:∀(o':LnQ)(y1 y2:Nat×Bk),bm [1,2] 0 (rH o0 nnQ nnQ) (rH o' y1 y2)=rH o' nnQ nnQ:=fun o' y1 y2=>rfl
  have hclean:∀(rv':V)(o':LnQ)(y1 y2:Nat×Bk),pL [1,2] rv'=true->clean [1,2] [rv',I ((i:Int)-1)] (rH o' y1 y2)=true:=fun rv' o' y1 y2 hrv'=>by
   simp only[clean,iN,hrv',Y9];simp[rH,oJ,offB,pL,mY]
  refine ai ?_;rw[e0];simp(disch:=try exact ac)[gB];refine aE ?_;simp(disch:=try exact ac)[e1,e2,hli,hg1];refine Qt hrv hxs hlr fun y1 y2=>?_
  rw[hn];refine cd (u:=.mk) ab ?_ (by simp[av,bu]);by_cases hnb:n<b
  .have hc:cmp n b<0:=by unfold cmp;rw[if_pos hnb];decide
   have q0:q=0:=by rw[<-hq];exact Zh hnb
   have r0:r2=n:=by rw[<-hr2];exact Zj hnb
   have cK:o.set i q=o:=by
    rw[q0];refine NR ?_;have:=hz i aa;rw[gj _ _ _ aa]at this;rw[List.getElem?_eq_getElem aa,this]
   have gg:=go (bu n) (.inl (by rw[r0])) nnQ nnQ;rw[cK]at gg;simp(disch:=try exact ac)[hc];exact⟨hclean _ _ _ _ rfl,by rw[hreset];exact gg⟩
  .have hc:¬cmp n b<0:=by unfold cmp;rw[if_neg hnb];split<;>decide
   have gg:=go (bu r2) (.inl rfl) nnQ nnQ;have ln:aj (bu n)=some (I (bz n)):=rfl;by_cases h1:bz n=1
   .have h1i:(bz n:Int)=1:=aa;have hnZ:n<Z:=by have:=mg n;unfold bz at h1;rw[h1,Wo]at this;exact this
    have d1:∀m:Nat,0<m->m<Z->dig Z m=[m]:=fun m hm hmZ=>by
     have h2:=oS ah (l:=[m]) (fun x hx=>by simp at hx;omega);rw[show val Z [m]=m by simp[val],show gS [m]=[m] by simp[gS];omega]at h2;exact h2
    have ixn:∀(m:Nat)(h:Hp),0<m->m<Z->ixV h 1 (bu m) (I 0)=some (.dptr [i9 m] 0):=fun m h hm hmZ=>by
     rw[bu,d1 m hm hmZ];exact qt i9 [m] h (k:=.i64) (i:=0) aa af
    have ldn:∀(m:Nat)(h:Hp),ld1 h (.dptr [i9 m] 0)=some (I m):=fun m h=>rfl
    have n0:0<n:=aa;have xn:=fun h=>ixn n h n0 hnZ
    have xb:=fun h=>ixn b h hb aa
    have hb0:¬((b:Int)=0):=aa;have hb0':¬(b=0):=aa;have f1:(n:Int)/(b:Int)=(q:Int):=by rw[<-hq];simp
    have f2:(n:Int)%(b:Int)=(r2:Int):=by rw[<-hr2];simp
    have hli2:∀h:Hp,fj 1 [D.int .i64 0] [(0,I r2)] h=some ([i9 r2],h):=fun h=>by
     simp[fj,fS,hO,toD,i9]
    have hnb2:n<1000000000:=aa;have hqb:q<1000000000:=aa;have t:=qH (s:=false) (l:=[r2]) (fun x hx=>by simp at hx;omega) af;rw[show val Z [r2]=r2 by simp[val]]at t;have s2:=hst2 y1 y2;have s1:=hst y1 y2;simp(disch:=try exact ac)[hc,ln,h1i,h1,xn,xb,ldn,hb0,hb0',Z1,Z4,f1,f2,hli2]
    refine cd (args:=[.agg [.d (.bool false),lst i9 [r2]]]) t ?_ (by simp[av,aP]);simp(disch:=try exact ac)[wh,s1,s2];exact⟨hclean _ _ _ _ rfl,by rw[hreset];exact gg⟩
   .have h1i:¬(bz n:Int)=1:=aa;have hbq:b*q<=n:=aa;have t9:=Gr (b:=b) (d:=q) aa hqZ;have mi:=AW (a:=n) (b:=b*q) hbq aa;have hsub:n-b*q=r2:=aa;rw[hsub]at mi;have hr2n:r2<Z^bz n:=Zu (show r2<=n by omega) (mg n);have t:=Aw false (w:=bz n) (n:=r2) aa hr2n;have s2:=hst2 y1 y2;have s1:=hst y1 y2
    simp(disch:=try exact ac)[hc,ln,h1i,h1];refine lo (Qd hb aa aa _ _ _ rfl Z 0 Z aa aU (Z7 _) aa hnZb ?_);rw[hq];simp(disch:=try exact ac);refine cd t9 ?_ (by simp[av,bu]);simp(disch:=try exact ac);refine cd mi ?_ (by simp[av,bu]);simp(disch:=try exact ac)
    refine cd (args:=[.agg [.d (.bool false),lst i9 (bv (bz n) r2)]]) t ?_ (by simp[av,aP]);simp(disch:=try exact ac)[wh,s1,s2];exact⟨hclean _ _ _ _ rfl,by rw[hreset];exact gg⟩
theorem yJ{a b:Nat}(hb:0<b)(ha:bz a<10000000)(hbl:bz b<10000000):CP Y F.dJ [bu a,bu b] (.tup [bu (a/b),bu (a%b)]):=by
 refine vK ?_;have la:aj (bu a)=some (I (bz a)):=rfl;obtain⟨N,hN⟩:=mnQ (bz a);rw[hN]at la ha;have hNl:N=(dig Z a).length:=hN.symm;simp(disch:=try exact ac)[dJ,la]
 have e2:[(1,Bk.data 1 (List.replicate N (D.int IntKind.i64 0)) true false),nnQ,nnQ]=rH (List.replicate N 0) nnQ nnQ:=by
  simp[rH,i9]
 rw[e2];refine lo (Hl (al:=dig Z a) (aJ ah a) aa hNl hb hbl _ _ N (List.replicate N 0) 0 _ aa af (fun x hx=>by rw[Xl]at hx;rw[hx.2];exact aU) (.inr ⟨rfl,rfl⟩) hb ?_ (fun j hj=>by rw[gj _ _ _ (by simpa using hj)];simp) fun o r rv ho hso hrv hr hv=>?_)
 .rw[hNl,List.drop_length,Zv af];simp[val]
 .simp only[fc];rw[bG ah]at hv;have hq:val Z o=a/b:=by rw[hv,Ww hb,Zh hr,Nat.add_zero]
  have hr2:r=a%b:=by rw[hv,Xf,Zj hr]
  have t:=qH (s:=false) hso aa;rw[hq]at t
  have sn:aP (rH o nnQ nnQ) (.agg [.d (.bool false),.ref 0 1 0 N N N])=some (.agg [.d (.bool false),lst i9 o],[(1,.data 1 (o.map i9) true true),nnQ,nnQ]):=by
   simp[aP,av,toD,rH,aH,lst,ho];rw[Z0 ak]
  simp(disch:=try exact ac);refine cdz (ds:=[.agg [.d (.bool false),lst i9 o]]) (h':=[(1,.data 1 (o.map i9) true true),nnQ,nnQ]) (by simp only[av,sn]) t ?_;simp(disch:=try exact ac)[wh]
  have srv:∀h:Hp,aP h rv=some (bu (a%b),h):=fun h=>by
   rcases hrv with rfl|⟨rfl,h0⟩
   .rw[hr2];exact yX _ _ _
   .rw[<-hr2,h0];rfl
  exact eX (yX _ _ _) (srv _)
theorem Qh(k:KL)(H h0:Hp)(hh:h0.length=H.length):∀(y x:Nat),bz x<10000000->bz y<10000000->k (.exit 0) [bu (Nat.gcd x y)] H->lp (ku (CX Y)) [] h0 [bu x,bu y] H k:=by
 intro y
 induction y using Nat.strongRecOn with
 | _ y ih=>
  intro x hx hy hk;have ly:aj (bu y)=some (I (bz y)):=rfl;by_cases h:y=0
  .subst h;rw[Wz]at hk;have l0:bz 0=0:=rfl;refine ai ?_;simp(disch:=try exact ac)[ku,ly,l0];exact hk
  .have hyp:0<y:=aa;have hm:=Zk x hyp
   have l0:0<bz y:=by
    rcases Zl (bz y)with h1|h1
    .have:=mg y;unfold bz at h1;rw[h1]at this;simp at this;omega
    .exact h1
   have hk2:=ih (x%y) hm y hy (by have:=rE (n:=x%y) (k:=bz y) (W4 hm (mg y));omega) (by
    rw[X2 y,<-V8,X2 y];exact hk)
   have dv:=yJ (a:=x) (b:=y) hyp hx hy;refine ai ?_;simp(disch:=try exact ac)[ku,ly,l0];refine cd dv ?_ (by simp[av,bu]);simp(disch:=try exact ac)[hh];exact hk2
theorem V7{s t:Bool}(hx:bz x<10000000)(hy:bz y<10000000):CP Y F.iK [wh s x,wh t y] (wh false (Nat.gcd x y)):=by refine xT ?_;simp(disch:=try exact ac)[iK,wh];refine lo (Qh _ _ _ rfl y x hx hy ?_);have ok9:okV (lst i9 (dig Z (Nat.gcd x y)))=true:=rfl;simp(disch:=try exact ac)[bu,ok9];exact qU false _ _
set_option exponentiation.threshold 1000 in
theorem RR{s:LuQ}(h:rd s=some z):s=itoa z∧ndg z.natAbs<=400∧bz z.natAbs<1000:=by
 have hb:=uf h;unfold rd at h;split at h
 .refine⟨J2 h,cg hb ae,?_⟩;have h3:z.natAbs<Z^45:=Z3 hb (by trivial);have:=rE h3;omega
 .cases h
theorem YI(s:LuQ):CP Y F.mJ [S s] (S (rdT s)):=by refine BN ?_;simp[mJ];refine cd (rW s) ?_;simp<;>exact fw rfl
theorem PF(a b:LuQ)(ha:a.length<1000000000)(hb:b.length<1000000000):CP Y F.qm [.agg [S a,S b]] (B (md a&&decide (b.length<=30))):=by
 refine HS ?_;simp[qm];refine cd (YI a) ?_;have hl:(rdT a).length<=a.length:=by unfold rdT;split<;>simp
 by_cases h1:(rdT a).length<=30
 .have h1':((rdT a).length:Int)<=30:=aa;by_cases h2:b.length<=30
  .have h2':(b.length:Int)<=30:=aa;simp[h1',h2']<;>exact bL (by grind[md])
  .have h2':¬(b.length:Int)<=30:=aa;simp[h1',h2']<;>exact bL (by grind)
 .have h1':¬((rdT a).length:Int)<=30:=aa;simp[h1']<;>exact bL (by simp[md,h1])
theorem WX{b:LuQ}(h:rd b=some w)(hw:0<w):rdT b=b:=by
 rw[N7]at h;split at h
 .simp only[Z9]at h;cases hn:rdN b with
  |true=>grind
  | false=>
   have:¬b.headD 0=45:=by simpa[rdN]using hn
   grind[rdT]
 .cases h
theorem VA(x:Tx):wT x=((rdF x.1 x.2).isSome&&(md x.1&&decide (x.2.length<=30))):=by
 unfold wT;cases h:rdF x.1 x.2 with
 |none=>simp
 | some f=>
  have hb:rdT x.2=x.2:=by
   unfold rdF at h;cases ha:rd x.1 with
   |none=>grind
   | some z=>
    grind[WX]
  simp[md,hb]
def sz4(x:Tx):Bool:=md x.1&&decide (x.2.length<=30)
def yj:List Tx->Int
 |[]=>0
 |x::q=>cond (rdF x.1 x.2).isSome (cond (sz4 x) (yj q) 4) 2
theorem Gv:∀q:List Tx,decide (yj q=0)=q.all wT
 |[]=>rfl
 | x::q=>by
  rw[List.all_cons,VA x];cases h1:(rdF x.1 x.2).isSome with
  |false=>grind[yj]
  | true=>
   cases h2:sz4 x with
   |false=>simp only[yj,h1,h2,cond_true,cond_false];rw[show(md x.1&&decide (x.2.length<=30))=false from h2];rfl
   | true=>
    simp only[yj,h1,h2,cond_true];rw[show(md x.1&&decide (x.2.length<=30))=true from h2];simpa using Gv q
theorem DL{s:List Tx}(hN:s.length<1000000000)(hl:∀x∈s,x.1.length<1000000000∧x.2.length<1000000000)(k:KL):∀(q a:List Tx),a++q=s->(yj q=0->k (.exit 0) [] [nnQ])->(yj q≠0->∀h,k .ret [I (yj q)] h) ->
  lp (qC (CX Y) (gR fi s) (I s.length)) [0] [nnQ] [I a.length] [nnQ] k
 | []=>by
  intro a ha h0 h1;simp at ha;subst ha;refine ai ?_;simp[qC];exact h0 rfl
 | x::q=>by
  intro a ha h0 h1;have hal:a.length<s.length:=by subst ha;simp
  have hx:nth ([],[]) s a.length=x:=by subst ha;simp
  have hxl:=hl x (by grind);have e1:=fun h:Hp=>m6 fi fT s h (k:=.i64) (i:=(a.length:Int)) aa aa
  have e2:=fun h:Hp=>m5 fi fT ([],[]) s h hal
  simp only[hx,Int.toNat_natCast]at e1 e2;have ih:=DL hN hl k q (a++[x]) (by grind);refine ai ?_;simp(disch:=try exact ac)[qC,e1,e2,fi];refine cd (Qz x.1 x.2 hxl.1 hxl.2) ?_;cases g3:(rdF x.1 x.2).isSome with
  | false=>
   simp only[yj,g3,cond_false]at h1;simp[g3]
   grind
  | true=>
   simp[g3];refine cd (PF x.1 x.2 hxl.1 hxl.2) ?_;cases g1:sz4 x with
   | false=>
    simp only[yj,g3,g1,cond_true,cond_false]at h1;rw[show(md x.1&&decide (x.2.length<=30))=false from g1];simp
    grind
   | true=>
    simp only[yj,g3,g1,cond_true]at h0 h1;have:=ih h0 h1;rw[show(md x.1&&decide (x.2.length<=30))=true from g1];simp(disch:=try exact ac)[clean,iN,pL,oJ,mY,bm]
    simp_all
def scB(n:Nat)(s:List Tx):Int:=if s.length=n then yj s else 5
theorem Ra(hl:∀x∈s,x.1.length<1000000000∧x.2.length<1000000000)(hs:s.length<1000000000):CP Y F.o8 [lst di p,gR fi s] (I (scB p.length s)):=by
 have lp':aj (lst di p)=some (I p.length):=rfl;have ls':aj (gR fi s)=some (I s.length):=rfl;refine HT ?_;by_cases h1:s.length=p.length
 .have h1':((s.length:Int)=(p.length:Int))=True:=eq_true aa;have e:scB p.length s=yj s:=if_pos h1;rw[e];simp[o8,lp',ls',h1'];refine lo (DL hs hl _ s [] rfl (fun g=>?_) (fun g h=>?_))
  .simp_all
  simp
 .have h1':¬((s.length:Int)=(p.length:Int)):=aa;have e:scB p.length s=5:=if_neg h1;rw[e];simp[o8,lp',ls',h1']<;>exact cF rfl
def siB(p:LiQ)(s:List Tx):Int:=if pcB p=0 then scB p.length s else pcB p
theorem DN(hp:p.length<1000000000)(hl:∀x∈s,x.1.length<1000000000∧x.2.length<1000000000)(hs:s.length<1000000000):CP Y F.mc [lst di p,gR fi s] (I (siB p s)):=by
 refine HU ?_;simp[mc];refine cd (yc hp) ?_;by_cases h:pcB p=0
 .have e:siB p s=scB p.length s:=if_pos h;rw[e];simp[h];refine cd (Ra hl hs) ?_;simp<;>exact cF rfl
 .have e:siB p s=pcB p:=if_neg h;rw[e];simp[h]<;>exact cF rfl
theorem Rb:(decide (pcB p=0)&&decide (siB p s=0))=r8 p s:=by grind[r8,J9,siB,scB,Gv]
theorem yZ(hp:p.length<1000000000)(hl:∀x∈s,x.1.length<1000000000∧x.2.length<1000000000)(hs:s.length<1000000000):CP Y F.cM [lst di p,gR fi s] (B (r8 p s)):=by
 refine tA ?_;rw[<-Rb];simp(disch:=try exact ac)[cM];refine cd (yc hp) ?_;by_cases h:pcB p=0
 .simp(disch:=try exact ac)[h];refine cd (DN hp hl hs) ?_;simp(disch:=try exact ac)<;>exact bL (by simp[h])
 .simp(disch:=try exact ac)[h]<;>exact bL af
def qM(x:Tx):Bool:=decide (40<x.1.length)||decide (40<x.2.length)
theorem PG(x:Tx):CP Y F.cx [.agg [S x.1,S x.2]] (B (qM x)):=by
 refine ub ?_;by_cases h1:40<x.1.length
 .have h1':(40:Int)<(x.1.length:Int):=aa;simp(disch:=try exact ac)[cx,h1']<;>exact bL (by simp[qM,h1])
 .have h1':¬(40:Int)<(x.1.length:Int):=aa;by_cases h2:40<x.2.length
  .have h2':(40:Int)<(x.2.length:Int):=aa;simp(disch:=try exact ac)[cx,h1',h2']<;>exact bL (by simp[qM,h1,h2])
  .have h2':¬(40:Int)<(x.2.length:Int):=aa;simp(disch:=try exact ac)[cx,h1',h2']<;>exact bL (by simp[qM,h1,h2])
theorem Ha(l:List Tx)(hN:l.length<1000000)(k:KL):∀(q a:List Tx),a++q=l ->
  (idx qM q = -1->k (.exit 0) [] [])->(∀i:Nat,idx qM q=i->k .ret [I (a.length+i:Nat)] []) ->
  lp (bE (CX Y) (gR fi l) (.fn F.cx [] []) (I l.length)) [] [] [I a.length] [] k
 | [],a=>by
  intro ha h0 _;simp at ha;subst ha;refine ai ?_;simp(disch:=try exact ac)[bE];exact h0 rfl
 | x::q,a=>by
  intro ha h0 h1;have hal:a.length<l.length:=by subst ha;simp
  have e3:nth ([],[]) l a.length=x:=by subst ha;simp
  have e1:=m6 fi fT l [] (k:=.i64) (i:=(a.length:Int)) aa aa;have e2:=m5 fi fT ([],[]) l [] hal;rw[e3]at e2;rw[Int.toNat_natCast]at e1;refine ai ?_;simp(disch:=try exact ac)[bE,e1,e2,fi];refine cdf (fs:=[]) (args:=[.agg [S x.1,S x.2]]) (cs:=[]) (PG x) rfl ?_
  simp(disch:=try exact ac);refine oB (fun h=>?_) (fun h=>?_)<;>try simp(disch:=try exact ac)[h]
  .have e:idx qM (x::q)=(0:Nat):=by simp[idx,List.findIdx?_cons,h]
   simpa using h1 0 e
  .have:=Ha l hN k q (a++[x]) (by simpa using ha) (fun e=>h0 ?_) (fun i e=>?_)
   .simpa[Int.add_assoc]using this
   .simp only[idx,List.findIdx?_cons,h,Zi,if_false]at e ⊢;cases hq:List.findIdx? qM q<;>simp[hq]at e ⊢
   .have:=h1 (i+1) ?_
    .simpa[Nat.add_assoc,Yf 1 i]using this
    .simp only[idx,List.findIdx?_cons,h,Zi,if_false]at e ⊢;cases hq:List.findIdx? qM q<;>simp[hq]at e ⊢
     exact e
theorem PE(l:List Tx)(hN:l.length<1000000):CP Y F.ie [gR fi l] (B (!l.any qM)):=by
 refine wG ?_;simp(disch:=try exact ac)[ie];refine cd (v:=B (l.any qM)) (kr ?_) ?_ ?_
 .simp(disch:=try exact ac)[a6];refine cd (v:=I (idx qM l)) (lh ?_) ?_ ?_
  .have ls':aj (gR fi l)=some (I l.length):=rfl;simp(disch:=try exact ac)[bf,ls'];refine lo (Ha l hN _ l [] rfl (fun e=>?_) (fun i e=>?_))
   .simp[e]
   .simp[e]
  .simp(disch:=try exact ac);have:=IC qM l;have e:decide (0<=idx qM l)=l.any qM:=by rw[Ym];simpa using this
   rw[e];exact wP ..
  .simp[av,aP]
 .simp(disch:=try exact ac)
 .simp[av,aP]
end Go.Vm
