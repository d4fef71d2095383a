/- Lemmas. -/
import Derived.Test.YtmfphhiejjamaaaGreatDoorQCkShift
set_option linter.unusedVariables false
set_option linter.unusedSimpArgs false
namespace Go.Vm
open Go Go.Am Go.Big
variable{n w e i k d off g M N y L:Nat}{z bits:Int}{s:List Tx}{l:List Bool}{ex fr:Bool}{α:Type}{v:V}{p cols:LiQ}{m cm mp:LLQ}
theorem YO(h1:1<=w)(h2:w<=17)(hn:n<10^w):CP Y F.ic [S (45::dS n w)] (.tup [I (-(n:Int)),.d (.pl .nilIface)]):=by
 refine uF ?_;have hl:=FH w n;have hlt:=DO w n;have hh:=Fe w n hn;have he:=WS n w;have hD:=JJ w n;have hn17:n<10^17:=Z1 hn (Z4 ae h2);simp only[Nat.reducePow]at hn17;generalize dS n w=L at *;generalize B6 n w=l at *;have hlen:L.length=w:=by rw[hD];simpa using hl
 have hi:ixS (S (45::L)) (.d (.int .i64 0))=some (.d (.int .u8 45)):=by simp[ixS]
 have hlw:nS (S (45::L))=some (I (w+1:Nat)):=by rw[Jq];simp[hlen]
 have hsl:slS (S (45::L)) (some (.d (.int .i64 1))) none=some (S L):=by
  have:(1:Int)<=(L.length:Int)+1:=aa;simp[slS,boV,this]
 have hl2:nS (S L)=some (I w):=by rw[Jq,hlen]
 simp(disch:=try exact ag)[ic,hlw,hi]
 have hcv:∀(k:kkQ),cvB (S L) [] k=k (lst f8 l) []:=by
  intro k
  have:V.d (.sl L.length (L.map fun b=>.int .u8 b.toNat))=lst f8 l:=by
   unfold lst;rw[hlen,hl,<-he];rfl
  simp only[cvB,this]
 refine jD (l:=[S L]) (h:=[]) (fun q=>?_) ?_
 .simp(disch:=try exact ag)[hsl,hl2]
 show cvB (S L) [] _
 rw[hcv];simp;refine lo (JZ _ _ rfl l [] 0 bK hlt af ?_);simp[hi,hh];refine jD (l:=[I (-(n:Int))]) (h:=[]) (fun q=>?_) ?_
 .simp(disch:=try exact ag)[hh]
 exact⟨[],by simp[bJ,aS,norm]⟩
theorem YN(h1:1<=w)(h2:w<=17)(hn:n<10^w):CP Y F.strconv_Atoi [S (45::dS n w)] (.tup [I (-(n:Int)),.d (.pl .nilIface)]):=by refine wH ?_;simp[strconv_Atoi];refine cd (YO h1 h2 hn) ?_;simp[Jc];exact⟨[],by simp[bJ,aS,norm]⟩
def sdg(z:Int):Nat:=ndg z.natAbs+if z<0 then 1 else 0
theorem LY(z:Int):nS (S (itoa z))=some (I (sdg z)):=by
 rw[Jq];unfold itoa sdg;split
 .simp[ai,bh]
 .simp[ai,bh]
theorem M1(h:sdg z<=18):CP Y F.strconv_Atoi [S (itoa z)] (.tup [I z,.d (.pl .nilIface)]):=by
 unfold sdg at h;by_cases hz:z<0
 .rw[if_pos hz]at h;have:=YN (n:=z.natAbs) (w:=ndg z.natAbs) (md _) aa (cY _);rw[show(-(z.natAbs:Int))=z by omega]at this;unfold itoa;rw[if_pos hz];exact this
 .rw[if_neg hz]at h;have:=JY (n:=z.natAbs) (w:=ndg z.natAbs) (md _) aa (cY _);rw[show((z.natAbs:Nat):Int)=z by omega]at this;unfold itoa;rw[if_neg hz];exact this
theorem te(z:Int)(w:Nat)(hw:w<=18):CP Y F.bC [S (itoa z),I w] (if sdg z<=w then .tup [I z,B true]else .tup [I 0,B false]):=by
 refine qU ?_;have la:=LY z;by_cases h:(w:Int)<sdg z
 .rw[if_neg aa];simp[bC,la,h];exact aG rfl rfl
 .rw[if_pos aa];have ap:=M1 (z:=z) aa;have en:biF .eql (.d (.pl .nilIface)) (.d (.pl .nilIface))=some (.d (.bool true)):=rfl;simp[bC,la,h];refine cd (args:=[S (itoa z)]) ap ?_;simp[en];exact aG rfl rfl
theorem Av(z:Int):rdN (itoa z)=decide (z<0):=by
 unfold itoa;split
 .rename_i h;simp[rdN,h]
 .rename_i h;have:=tg z.natAbs;unfold rdN;rw[decide_eq_false this,decide_eq_false h]
theorem rZ(z:Int):CP Y F.aR [S (itoa z)] (.tup [B (decide (z<0)),S (ai z.natAbs)]):=by have h:=wK (itoa z);rw[Av,uE]at h;exact h
theorem sE{a b:Nat}(h:ai a=ai b):a=b:=by
 have:=congrArg (fE 0) h
 rwa [dZ,dZ]at this
theorem VM{a b:Int}(h:itoa a=itoa b):a=b:=by
 have h1:=congrArg rdT h;have h2:=congrArg rdN h;rw[uE,uE]at h1;rw[Av,Av]at h2;have h3:=sE h1;have h4:(a<0)↔(b<0):=by simpa using h2
 omega
theorem mG:ai n=[48]↔n=0:=by
 constructor
 .intro h;exact sE (a:=n) (b:=0) (h.trans fj.symm)
 .rintro rfl;exact fj
def sg(b:Bool)(n:Nat):Int:=if b then -(n:Int)else n
theorem m7(b:Bool)(hn9:ndg n<1000000):CP Y F.cF [B b,S (ai n)] (S (itoa (sg b n))):=by
 refine zA ?_;cases b with
 | false=>
  have:itoa (sg false n)=ai n:=by simp[sg,itoa]
  rw[this];simp[cF]<;>exact fD rfl
 | true=>
  by_cases hn:n=0
  .subst hn;have e0:itoa (sg true 0)=[48]:=fj;simp[cF,fj]<;>exact fD e0.symm
  .have h0:¬ai n=[48]:=fun h=>hn (mG.1 h)
   have:itoa (sg true n)=45::ai n:=by
    unfold itoa sg;rw[if_pos rfl,if_pos aa];simp
   rw[this];have hl:(ai n).length=ndg n:=bh _ _;have ha:biS .add (.d (.str [45])) (S (ai n))=some (S (45::ai n)):=abJ [45] (ai n) (by rw[hl];simp;omega);simp[cF,h0,ha]<;>exact fD rfl
def bZ(n:Nat):Nat:=(dig Z n).length
theorem DR:bZ n=ndg n/9+1∨bZ n+1=ndg n/9+1:=by
 unfold bZ;have h1:(dig Z n).length<=ndg n/9+1:=(pN ax).2 (Z1 (cY n) (by rw[A7];exact Z4 ae aa))
 have h2:ndg n<=9*(dig Z n).length∨n=0:=by
  rcases Zd n with h|h
  .omega
  .left;have h3:n<Z^(dig Z n).length:=(pN ax).1 (Z7 _);rw[A7]at h3;refine cN h3 ?_;rcases Zd (dig Z n).length with h4|h4
   .grind
   .omega
 rcases h2 with h2|rfl
 .omega
 .have:ndg 0=1:=bb;omega
theorem Jm(n:Nat):n<Z^bZ n:=(pN ax).1 (Z7 _)
theorem AC(n:Nat):dk (bZ n) n=dig Z n:=by
 have:=nK (Jm n)
 rwa [Z6 (by rw[cT];exact Z7 _)]at this
theorem AB{c:Nat}(h:bZ n+1=c):dk c n=dig Z n++[0]:=by rw[<-h,BQ (Jm n),AC]
theorem QQ{s t n c:Nat}{h:Hp}{q:kkQ}{u:PU q}(hst:s≠t)(hg:h[s]?=some (1,.data 1 ((dk c n).map u6) true false))(ht:h[t]?=some nnQ)(hL:bZ n=c∨bZ n+1=c)(hc:c<1000000)
  (hq:∀s' e' ex h',h'.length=h.length->h'[s']?=some (e',.data 1 ((dig Z n++[0]).map u6) ex false)->(s'=s∨s'=t)->(∀j,j≠s'->h'[j]?=h[j]?)->q (.ref s' e' 0 (bZ n+1) (bZ n+1) (bZ n+1)) h') :
  rh (apV false t 1 8 (.ref s 1 0 (bZ n) c c) (.d (.sl 1 [u6 0])) h) q u:=by
 have hl:=bH hg;have hl2:=bH ht;rcases hL with hL|hL
 .subst hL;rw[AC]at hg;refine QP hg ht rfl aa ?_;exact hq t 1 false _ af (by grind) (.inr rfl) (fun j hj=>by rw[List.getElem?_set_ne (Ne.symm hj)])
 .rw[AB hL]at hg;have hlen:(dig Z n).length=bZ n:=rfl;refine OU (x:=0) hg (by grind) aa ?_;rw[<-hL];refine hq s 1 true _ af ?_ (.inl rfl) (fun j hj=>by rw[List.getElem?_set_ne (Ne.symm hj)])
  have e1:(dig Z n++[0]).take (bZ n)++[0]++(dig Z n++[0]).drop (bZ n+1)=dig Z n++[0]:=by
   rw[<-hlen,V6,Zb af,Y8]
  grind
theorem QO{s t n c k:Nat}{h:Hp}{q:kkQ}{u:PU q}(hst:s≠t)(hg:h[s]?=some (1,.data 1 ((dk c n).map u6) true false))(ht:h[t]?=some nnQ)(hL:bZ n=c∨bZ n+1=c)(hc:c+k<1000000)
  (hq:∀t1 s' h',h'.length=h.length->(s'=s∨s'=t)->(∀j,j≠s'->h'[j]?=h[j]?)->(∃(e':Nat)(l:LnQ)(ex:Bool),h'[s']?=some (e',.data 1 (l.map u6) ex false)) ->
   (∀P:Hp->Prop,(∀g,P g->g[s']?=h'[s']?)->RdS P t1 (dig Z n++List.replicate k 0))->q t1 h') :
  rh (apZ false t 1 8 [.int .u64 0] (.ref s 1 0 (bZ n) c c) (I (k:Nat)) h) q u:=by
 have hl:=bH hg;have hl2:=bH ht;have hlen:(dig Z n).length=bZ n:=rfl;unfold rh apZ;simp only;rw[if_pos ⟨aa,aa⟩];unfold apC;simp only[Int.toNat_natCast]
 have rdOf:∀{s' e' len cap tot:Nat}{l:LnQ}{ex:Bool}{h':Hp},h'[s']?=some (e',.data 1 (l.map u6) ex false)->tot=l.length->len<=tot->l.take len=dig Z n++List.replicate k 0 ->
   ∀P:Hp->Prop,(∀g,P g->g[s']?=h'[s']?)->RdS P (.ref s' e' 0 len cap tot) (dig Z n++List.replicate k 0):=by
  intro s' e' len cap tot l ex h' hg' htot hle htk P hP;refine⟨?_,fun g i hg2 hi=>?_⟩
  .have:(dig Z n++List.replicate k 0).length=len:=by rw[<-htk,Zr];omega
   simp_all
  .have:=(DX (h:=g) (cap:=cap) ((hP g hg2).trans hg') htot hle).2 [] i (by grind)
   grind
 by_cases hk:k=0
 .rw[if_pos hk,if_pos aa];subst hk;refine hq _ s h rfl (.inl rfl) (fun _ _=>rfl) ⟨_,_,_,hg⟩ ?_;refine rdOf hg (cT ..).symm aa ?_;rw[Xi,Y8];rcases hL with hL|hL
  .rw[<-hL,AC,<-hlen,Wq]
  .rw[AB hL,<-hlen,V6]
 .rw[if_neg hk,aak];simp only[eG hg];rw[if_pos ⟨trivial,by simp[cT],aa,by simp[cT],af⟩];by_cases hin:bZ n+k<=c
  .rw[if_pos hin];have hk1:k=1:=aa;subst hk1;have hL2:bZ n+1=c:=aa;simp only[V7,Ze,if_false,bS]
   have e1:((dk c n).map u6).take (0+bZ n*1)++(List.replicate 1 0).map u6++((dk c n).map u6).drop (0+(bZ n+1)*1)=(dig Z n++[0]).map u6:=by
    rw[AB hL2,Zp,Zp,Yc,Yc,<-hlen];simp[<-List.map_take,<-List.map_drop]
   rw[e1];refine hq _ s _ af (.inl rfl) (fun j hj=>by rw[List.getElem?_set_ne (Ne.symm hj)]) ⟨1,dig Z n++[0],true,by grind⟩ ?_;refine rdOf (l:=dig Z n++[0]) (ex:=true) (by grind) (by grind) aa ?_
   grind
  .rw[if_neg hin,if_pos aa];simp only[if_true,new,ht]
   have e1:(((dk c n).map u6).drop 0).take (bZ n*1)++(List.replicate k 0).map u6=(dig Z n++List.replicate k 0).map u6:=by
    rw[Zj,Yc,<-List.map_take,Xx];congr 2;rcases hL with hL|hL
    .rw[<-hL,AC,<-hlen,Wq]
    .rw[AB hL,<-hlen,V6]
   rw[e1];have e2:bZ n*1+((List.replicate k 0).map u6).length=bZ n+k:=af;rw[e2];refine hq _ t _ af (.inr rfl) (fun j hj=>by rw[List.getElem?_set_ne (Ne.symm hj)]) ⟨1,dig Z n++List.replicate k 0,false,by grind⟩ ?_;refine rdOf (l:=dig Z n++List.replicate k 0) (ex:=false) (by grind) (by grind) aa ?_
   grind[Z6]
def NV(h:Hp):Prop:=∀(j:Nat)(x:Nat×Bk),h[j]?=some x->∀b,bW b x.2=true
theorem NV.all{h:Hp}(hn:NV h)(b:Nat):(h.all fun x=>bW b x.2)=true:=by rw[Zv];intro x hx;obtain⟨j,hj⟩:=W7.1 hx;exact hn j x hj b
theorem NV.upd{h h':Hp}(hn:NV h){s:Nat}{l:LnQ}(hs:h'[s]?=some (e,.data 1 (l.map u6) ex fr))(ho:∀j,j≠s->h'[j]?=h[j]?):NV h':=by
 intro j x hj b;by_cases e1:j=s
 .subst e1;rw[hs]at hj;cases hj;rfl
 .rw[ho j e1]at hj;exact hn j x hj b
theorem TA{α:Type}{l:List α}{x:α}(h:l[i]?=some x):l.set i x=l:=by
 apply X8;intro j;by_cases e:i=j
 .grind
 .rw[List.getElem?_set_ne e]
theorem Pq{h:Hp}{s:Nat}{l:LnQ}(hs:h[s]?=some (e,.data 1 (l.map u6) ex false)):sP h s e ex l=h:=TA hs
theorem G8{h:Hp}{s e n m:Nat}{ex:Bool}{L:LnQ}{w:V}(hn:NV h)(hlt:s<h.length)(h3:L.length=n)(b1:val Z L=m)(b2:aH Z L)(hm:n<1000000)(kk:V->V)(hkk:∀h':Hp,out w (kk (S (ai m))) h'){sl:Nat} :
  cai (CX Y).i (sP h s e ex L) (V.fn F.ay [] []) [.ref s e 0 n n n] sl fun v22 h=>
    cal (CX Y).p h (V.fn F.aP [] []) [v22] fun v23 h=>out w (kk v23) h:=by
 have nv:NV (sP h s e ex L):=hn.upd (sY hlt) (fun j hj=>by grind[sP]);have tr:=uu (h:=sP h s e ex L) (nv.all _) (s:=s) (e:=e) (ex:=ex) (fr:=false) (sY hlt) h3.symm (len:=n) (cap:=n) (Z7 _) aa (Z7 _);have ht:iN (L.take n)=dig Z m:=by rw[Z6 aa,<-b1,rR ax b2]
 rw[ht]at tr;refine pT tr ?_ af;have lt:m<Z^n:=by rw[<-b1,<-h3];exact jE bB b2
 have hl:(dig Z m).length<=n:=(pN ax).2 lt;have sM:=wL (h:=sP h s e ex L) (s:=s) (e:=e) (ex:=ex) (fr:=false) (sY hlt) h3.symm (len:=(dig Z m).length) (cap:=n) hl (Z7 _)
 have ht2:L.take (dig Z m).length=dig Z m:=by
  have e:iN L=dig Z m:=by rw[<-ht,Z6 aa]
  obtain⟨z,hz⟩:=G6 L;rw[e]at hz;rw[hz];exact V6 ..
 rw[ht2]at sM;refine cdz (u:=.mk) (by simp only[aS,sM];rfl) (uU (n:=m) aa) ?_
 grind
theorem FJ{a b:Nat}(ha:ndg a<1000000)(hb:ndg b<1000000):CP Y F.ii [S (ai a),S (ai b)] (S (ai (a+b))):=by
 refine GN ?_;have bo:=DU a b;by_cases h18:ndg a<=18∧ndg b<=18
 .rw[if_pos h18]at bo;have g3:10^ndg a<=10^18:=Z4 ae h18.1;have g4:10^ndg b<=10^18:=Z4 ae h18.2;have b1:a<1000000000000000000:=Z1 (cY a) g3;have b2:b<1000000000000000000:=Z1 (cY b) g4;simp[ii];refine cd bo ?_;obtain⟨m,hm⟩:=mnQ (a+b);have em:(a:Int)+(b:Int)=(m:Int):=aa
  rw[hm];simp(disch:=try exact ag)[em];refine cd (yU (n:=m) aa) ?_;exact fD rfl
 rw[if_neg h18]at bo;obtain⟨ca,hca⟩:=nmQ (ndg a/9+1);obtain⟨cb,hcb⟩:=nmQ (ndg b/9+1);have cA:=tv (h:=[nnQ,nnQ,nnQ,nnQ,nnQ,nnQ]) rfl (n:=a) aa hca;have cB:=tv (h:=[(1,.data 1 ((dk ca a).map u6) true false),nnQ,nnQ,nnQ,nnQ,nnQ]) rfl (n:=b) aa hcb
 have LA:bZ a=ca∨bZ a+1=ca:=by rw[hca];exact DR
 have LB:bZ b=cb∨bZ b+1=cb:=by rw[hcb];exact DR
 have hli:∀h:Hp,cO 1 [D.int .u64 0] [(0,V.d (D.int .u64 0))] h=some ([u6 0],h):=fun h=>by rfl
 have main:∀(p q cp cq sp sq:Nat)(h:Hp),p+q=a+b->bZ q<=bZ p->cp<200000->cq<200000->(bZ p=cp∨bZ p+1=cp)->(bZ q=cq∨bZ q+1=cq)->sp<2->sq<2->sp≠sq->h.length=6->NV h ->
   h[sp]?=some (1,.data 1 ((dk cp p).map u6) true false)->h[sq]?=some (1,.data 1 ((dk cq q).map u6) true false)->h[2]?=some nnQ->h[3]?=some nnQ ->
   apV false 2 1 8 (.ref sp 1 0 (bZ p) cp cp) (.d (.sl 1 [u6 0])) h fun v15 h=>
   bnd (bj v15) fun v16=>
   bnd (biI .sub v16 (.d (.int .i64 1))) fun v17=>
   bnd (bj (.ref sq 1 0 (bZ q) cq cq)) fun v18=>
   bnd (biI .sub v17 v18) fun v19=>
   apZ false 3 1 8 [.int .u64 0] (.ref sq 1 0 (bZ q) cq cq) v19 h fun v20 h=>
   cai (CX Y).i h (.fn F.cL [] []) [v15,v20,(.d (.int .i64 0))] 4 fun v21 h=>
   cai (CX Y).i h (.fn F.ay [] []) [v15] 5 fun v22 h=>
   cal (CX Y).p h (.fn F.aP [] []) [v22] fun v23 h=>
   out (S (ai (a+b))) v23 h:=by
  intro p q cp cq sp sq h hpq hle hcp hcq LP LQ hsp hsq hne hlen hnv gp gq g2 g3;refine QQ (u:=.mk) (t:=2) aa gp g2 LP aa fun s' e' ex h1 l1 gs' hs' o1=>?_
  obtain⟨k,hk⟩:=nmQ (bZ p-bZ q);have e1:(bZ p:Int)+1-1-(bZ q:Int)=(k:Int):=aa;have hr1:bj (.ref s' e' 0 (bZ p+1) (bZ p+1) (bZ p+1))=some (I (bZ p+1:Nat)):=rfl;have hr2:bj (.ref sq 1 0 (bZ q) cq cq)=some (I (bZ q:Nat)):=rfl
  have hb1:biI .sub (I ((bZ p+1:Nat):Int)) (.d (.int .i64 1))=some (I (bZ p)):=by
   rw[rT,show(((bZ p+1:Nat):Int)-1)=(bZ p:Int) by omega,uo aa aa]
  have hb2:biI .sub (I (bZ p:Int)) (I (bZ q:Int))=some (I k):=by
   rw[rT,show((bZ p:Int)-(bZ q:Int))=(k:Int) by omega,uo aa aa]
  simp only[hr1,hr2,hb1,hb2,bnd];have nv1:=hnv.upd gs' o1;have hqs:sq≠s':=by rcases hs' with rfl|rfl<;>omega
  have h3s:3≠s':=by rcases hs' with rfl|rfl<;>omega
  refine QO (u:=.mk) (t:=3) aa ((o1 sq hqs).trans gq) ((o1 3 h3s).trans g3) LQ aa fun t1 s2 h2 l2 hs2 o2 ⟨e2,l2',ex2,g2'⟩ rd=>?_
  have nv2:=nv1.upd g2' o2;have hss:s'≠s2:=by rcases hs2 with rfl|rfl<;>omega
  have gs2:h2[s']?=some (e',.data 1 ((dig Z p++[0]).map u6) ex false):=(o2 s' hss).trans gs';have lt2:s'<h2.length:=bH gs2;have hdl:(dig Z q++List.replicate k 0).length=bZ p:=by simp only[Zm,Zh];show bZ q+k=_;omega
  have sD:aH Z (dig Z q++List.replicate k 0):=se (cJ ax q) (qg _);have vD:val Z (dig Z q++List.replicate k 0)=q:=by rw[mE,iS ax]
  have rdS:=rd (fun t=>∃l,t=sP h2 s' e' ex l) (fun g ⟨l,hg⟩=>by grind[sP]);obtain⟨c1,c2,c3⟩:=YL (n:=bZ p) rfl hdl (cJ ax p) sD (iS ax p) vD;have bk:=MZ (at_:=0) (tot:=bZ p+1) (l:=dig Z p++[0]) (ex:=ex) (e:=e') (s:=s') (h:=h2) (nv2.all _) lt2 rdS sD aa aa (by simp[bZ]) (se (cJ ax p) (qg 1))
  rw[Pq gs2]at bk;refine pT bk ?_ af;rw[hpq]at c1;exact G8 nv2 lt2 c3 c1 c2 aa (fun v=>v) (fun _=>fD rfl)
 simp[ii];refine cd bo ?_;simp;refine jC (fe (e:=0) (b:=.none) cA rfl ?_);rw[Yz,cT];simp;refine jC (fe (e:=0) (b:=.none) cB rfl ?_);rw[Yz,cT]
 have nv:NV [(1,.data 1 ((dk ca a).map u6) true false),(1,.data 1 ((dk cb b).map u6) true false),nnQ,nnQ,nnQ,nnQ]:=by
  intro j x hj b';rcases W7.2 ⟨j,hj⟩with hm;simp only[Zo,Ys,or_false]at hm;rcases hm with rfl|rfl|rfl|rfl|rfl|rfl<;>rfl
 by_cases g1:((dig Z a).length:Int)<((dig Z b).length:Int)
 .simp[g1];refine aT ?_;simp[hli];exact main b a cb ca 1 0 _ aa (by grind[bZ]) aa aa LB LA aa aa aa rfl nv rfl rfl rfl rfl
 .simp[g1];refine aT ?_;simp[hli];exact main a b ca cb 0 1 _ rfl (by grind[bZ]) aa aa LA LB aa aa aa rfl nv rfl rfl rfl rfl
theorem HO:∀(s t:LuQ)(c:Nat),s.length=t.length->s.all qt=true->t.all qt=true->Op.bytesLess s t=decide (fE c s<fE c t)
 |[],[],c,_,_,_=>by simp[Op.bytesLess]
 | x::s,y::t,c,hl,hs,ht=>by
  simp only[List.length_cons,Nat.add_right_cancel_iff]at hl;simp only[List.all_cons,Z8]at hs ht;have hx:=mA.1 hs.1;have hy:=mA.1 ht.1
  have key:∀(s t:LuQ)(u v:Nat),s.length=t.length->s.all qt=true->u<v->fE u s<fE v t:=by
   intro s t u v hl hs h;have h1:=uG s u hs;have h2:=Ff t v;rw[<-hl]at h2;have h3:(u+1)*10^s.length<=v*10^s.length:=Zz _ h;omega
  rw[ky,ky];have ex:x<y↔x.toNat<y.toNat:=UInt8.lt_iff_toNat_lt;have ey:y<x↔y.toNat<x.toNat:=UInt8.lt_iff_toNat_lt;rcases Nat.lt_trichotomy x.toNat y.toNat with h|h|h
  .have:=key s t (c*10+(x.toNat-48)) (c*10+(y.toNat-48)) hl hs.2 aa
   grind[Op.bytesLess]
  .have e:x=y:=UInt8.toNat_inj.1 h;subst e;rw[<-HO s t _ hl hs.2 ht.2];simp[Op.bytesLess]
  .have:=key t s (c*10+(y.toNat-48)) (c*10+(x.toNat-48)) hl.symm ht.2 aa;rw[decide_eq_false aa]
   grind[Op.bytesLess]
theorem HS(n:Nat):(ai n).all qt=true:=nq _ _
theorem HN{a b:Nat}(h:ndg a=ndg b):Op.bytesLess (ai a) (ai b)=decide (a<b):=by rw[HO (ai a) (ai b) 0 (by rw[ai,ai,bh,bh,h]) (HS _) (HS _),dZ,dZ]
theorem UQ{a b:Nat}(h:ndg a<ndg b):a<b:=by
 rcases Zi a b with g|g
 .exact g
 .have:=dM g;omega
theorem B8{a b:Nat}(h:a<b):Big.cmp a b = -1:=if_pos h
theorem B9{a b:Nat}(h:b<a):Big.cmp a b=1:=(if_neg aa).trans (if_pos h)
theorem cmp_eq{a:Nat}:Big.cmp a a=0:=(if_neg aa).trans (if_neg aa)
theorem uO{a b:Nat}(ha:ndg a<1000000)(hb:ndg b<1000000):CP Y F.bV [S (ai a),S (ai b)] (I (Big.cmp a b)):=by
 refine AP ?_;have la:=kZ a;have lb:=kZ b;by_cases hl:ndg a=ndg b
 .have h1:=HN hl;have h2:=HN hl.symm;have e1:biS .lss (S (ai a)) (S (ai b))=some (.d (.bool (decide (a<b)))):=by rw[<-h1];rfl
  have e2:biS .gtr (S (ai a)) (S (ai b))=some (.d (.bool (decide (b<a)))):=by
   have h3:(ai a == ai b)=decide (a=b):=by
    rw[Xz];simp only[beq_iff_eq,decide_eq_true_eq];exact⟨sE,fun h=>by rw[h]⟩
   have h4:decide (b<a) = !(decide (a<b)||decide (a=b)):=by
    rw[Xz];simp only[decide_eq_true_eq,Y9,Bool.or_eq_false_iff,decide_eq_false_iff_not];omega
   rw[h4,<-h1,<-h3];rfl
  rw[hl]at la;by_cases g1:a<b
  .simp[bV,la,lb,e1,e2,g1]
   grind[cx,B8]
  .by_cases g2:b<a
   .simp[bV,la,lb,e1,e2,g1,g2]
    grind[cx,B9]
   .simp[bV,la,lb,e1,e2,g1,g2];have:a=b:=aa
    grind[cx,cmp_eq]
 .have hne:¬((ndg a:Int)=(ndg b:Int)):=aa;rcases Zi (ndg a) (ndg b)with h|h
  .have h3:=UQ h;have m1:mxI true [.d (.int .i64 (-1)),I ((ndg a:Int)-ndg b)]=some (I (-1)):=by simp[mxI,mx2];omega
   have m2:mxI false [.d (.int .i64 1),I (-1)]=some (I (-1)):=rfl;simp(disch:=try exact ag)[bV,la,lb,hne,m1,m2]
   grind[cx,B8]
  .have h3:b<a:=UQ aa;have m1:mxI true [.d (.int .i64 (-1)),I ((ndg a:Int)-ndg b)]=some (I ((ndg a:Int)-ndg b)):=by simp[mxI,mx2];omega
   have m2:mxI false [.d (.int .i64 1),I ((ndg a:Int)-ndg b)]=some (I 1):=by simp[mxI,mx2];omega
   simp(disch:=try exact ag)[bV,la,lb,hne,m1,m2]
   grind[cx,B9]
theorem Lt:1<Z:=ax
theorem SU{A D:LnQ}{a b:Nat}(hA:A.length=n)(hD:D.length=n)(sA:aH Z A)(sD:aH Z D)(va:val Z A=a)(vb:val Z D=b)(hba:b<=a):
  val Z (jb 1 0 D (D.length+1) 0 0 0 (A++[0])).2=a-b∧aH Z (jb 1 0 D (D.length+1) 0 0 0 (A++[0])).2∧(jb 1 0 D (D.length+1) 0 0 0 (A++[0])).2.length=n+1:=by
 have sA0:aH Z (A++[0]):=se sA (qg 1);have l2:=jE bB sD;rw[vb,hD]at l2
 obtain ⟨h1,h2,h3,h4⟩:=Ee (g:=1) (at_:=0) Lt sD (D.length+1) 0 0 0 (A++[0]) bK bB (Yl _) sA0 (by
  rw[Zj,vb,hD,Xr,Zp,Nat.pow_succ];exact Z1 l2 (Y5 _ bB))
 have e2:val Z (A++[0])=a:=by rw[show([0]:LnQ)=List.replicate 1 0 from rfl,mE,va]
 have hl:(jb 1 0 D (D.length+1) 0 0 0 (A++[0])).2.length=n+1:=by rw[h1.1];simp[hA]
 refine⟨?_,h2,hl⟩;have h5:=jE bB h2;rw[hl]at h5;rw[e2,Zj,vb,hD]at h4;rw[hD]at h3 h5 ⊢;generalize val Z (jb 1 0 D (n+1) 0 0 0 (A++[0])).2=x at *;generalize(jb 1 0 D (n+1) 0 0 0 (A++[0])).1=c at *;simp only[Zp,Nat.add_zero,Nat.pow_zero,Xr]at h4;rcases Zd c with h|h
 .subst h;omega
 .have:c=1:=aa;subst this;rw[Yc]at h4;omega
theorem B5{a b:Nat}(hba:b<=a)(ha:ndg a<1000000):CP Y F.jg [S (ai a),S (ai b)] (.tup [S (ai (a-b)),I 0]):=by
 have hb:ndg b<1000000:=Zk (dM hba) ha;refine GH ?_;have bo:=DU a b;have dc:=uO ha hb
 have hc:¬Big.cmp a b<0:=by
  unfold Big.cmp;rw[if_neg aa];split<;>omega
 have hc2:(-1:Int)<=Big.cmp a b∧Big.cmp a b<=1:=by
  unfold Big.cmp;split
  .omega
  .split<;>omega
 generalize Big.cmp a b=cc at *;simp[jg];refine cd dc ?_;simp[hc];by_cases h18:ndg a<=18∧ndg b<=18
 .rw[if_pos h18]at bo;have g3:10^ndg a<=10^18:=Z4 ae h18.1;have b1:a<1000000000000000000:=Z1 (cY a) g3;refine cd bo ?_;obtain⟨m,hm⟩:=mnQ (a-b);have em:(a:Int)-(b:Int)=(m:Int):=aa;rw[hm];simp(disch:=try exact ag)[em];refine cd (yU (n:=m) aa) ?_;exact aG rfl rfl
 rw[if_neg h18]at bo;obtain⟨ca,hca⟩:=nmQ (ndg a/9+1);obtain⟨cb,hcb⟩:=nmQ (ndg b/9+1);have cA:=tv (h:=[nnQ,nnQ,nnQ,nnQ,nnQ,nnQ,nnQ]) rfl (n:=a) aa hca;have LA:bZ a=ca∨bZ a+1=ca:=by rw[hca];exact DR
 have LB:bZ b=cb∨bZ b+1=cb:=by rw[hcb];exact DR
 have hle:bZ b<=bZ a:=(pN ax).2 (Zk hba (Jm a));have hli:∀h:Hp,cO 1 [D.int .u64 0] [(0,V.d (D.int .u64 0))] h=some ([u6 0],h):=fun h=>by simp[cO,jv,iH,toD,u6]
 refine cd bo ?_;simp;refine jC (fe (e:=0) (b:=.none) cA rfl ?_);rw[Yz,cT];simp[hli]
 have nv:NV [(1,.data 1 ((dk ca a).map u6) true false),nnQ,nnQ,nnQ,nnQ,nnQ,nnQ]:=by
  intro j x hj b';rcases W7.2 ⟨j,hj⟩with hm;simp only[Zo,Ys,or_false]at hm;rcases hm with rfl|rfl|rfl|rfl|rfl|rfl|rfl<;>rfl
 refine QQ (s:=0) (t:=1) (n:=a) (c:=ca) aa rfl rfl LA aa fun s1 e1 ex1 h1 l1 g1 hs1 o1=>?_
 have nv1:=nv.upd g1 o1;have k1:∀j,2<=j->h1[j]?=([(1,.data 1 ((dk ca a).map u6) true false),nnQ,nnQ,nnQ,nnQ,nnQ,nnQ]:Hp)[j]?:=fun j hj=>o1 j aa
 have hr1:bj (.ref s1 e1 0 (bZ a+1) (bZ a+1) (bZ a+1))=some (I (bZ a+1:Nat)):=rfl
 have hb1:biI .sub (I ((bZ a+1:Nat):Int)) (.d (.int .i64 1))=some (I (bZ a)):=by
  rw[rT,show(((bZ a+1:Nat):Int)-1)=(bZ a:Int) by omega,uo aa aa]
 -- the second number,twice
 have cB:=tv (h:=h1) (nv1.all _) (n:=b) aa hcb;refine jC (u:=.mk) (fe (e:=0) (b:=.none) cB (k1 2 aa) ?_);rw[Yz,cT];have l2:(h1.set 2 (1,.data 1 ((dk cb b).map u6) true false)).length=7:=by simp[l1]
 have n2:(2:Nat)<h1.length:=by rw[l1];simp
 have g2:(h1.set 2 (1,.data 1 ((dk cb b).map u6) true false))[2]?=some (1,.data 1 ((dk cb b).map u6) true false):=by simp[n2]
 have o2:∀j,j≠2->(h1.set 2 (1,.data 1 ((dk cb b).map u6) true false))[j]?=h1[j]?:=fun j hj=>by rw[List.getElem?_set_ne (Ne.symm hj)]
 have nv2:=nv1.upd g2 o2;generalize h1.set 2 (1,.data 1 ((dk cb b).map u6) true false)=h2 at *
 show bnd (bj (.ref s1 e1 0 (bZ a+1) (bZ a+1) (bZ a+1))) _
 simp only[hr1,hb1,bnd];have cB2:=tv (h:=h2) (nv2.all _) (n:=b) aa hcb;refine jC (u:=.mk) (fe (e:=0) (b:=.none) cB2 ((o2 3 ae).trans (k1 3 aa)) ?_);rw[Yz,cT];have n3:(3:Nat)<h2.length:=by rw[l2];simp
 have g3:(h2.set 3 (1,.data 1 ((dk cb b).map u6) true false))[3]?=some (1,.data 1 ((dk cb b).map u6) true false):=by simp[n3]
 have o3:∀j,j≠3->(h2.set 3 (1,.data 1 ((dk cb b).map u6) true false))[j]?=h2[j]?:=fun j hj=>by rw[List.getElem?_set_ne (Ne.symm hj)]
 have nv3:=nv2.upd g3 o3;generalize h2.set 3 (1,.data 1 ((dk cb b).map u6) true false)=h3 at *;obtain⟨k,hk⟩:=nmQ (bZ a-bZ b);have hr2:bj (.ref 3 (0+1) 0 (bZ b) cb cb)=some (I (bZ b:Nat)):=rfl
 have hb2:biI .sub (I (bZ a:Int)) (I (bZ b:Int))=some (I k):=by
  rw[rT,show((bZ a:Int)-(bZ b:Int))=(k:Int) by omega,uo aa aa]
 simp only[show bj (V.ref 3 (0+1) 0 (dig Z b).length cb cb)=some (I (bZ b:Nat))from rfl,hb2];have q2:h3[2]?=some (1,.data 1 ((dk cb b).map u6) true false):=(o3 2 ae).trans g2;have q4:h3[4]?=some nnQ:=((o3 4 ae).trans (o2 4 ae)).trans (k1 4 aa)
 refine QO (u:=.mk) (s:=2) (t:=4) aa q2 q4 LB aa fun t1 s4 h4 l4 hs4 o4 ⟨e4,l4',ex4,g4⟩ rd=>?_
 have nv4:=nv3.upd g4 o4;have hss:s1≠s4:=by rcases hs1 with rfl|rfl<;>rcases hs4 with rfl|rfl<;>omega
 have h12:s1≠2∧s1≠3:=by rcases hs1 with rfl|rfl<;>omega
 have gs:h4[s1]?=some (e1,.data 1 ((dig Z a++[0]).map u6) ex1 false):=(((o4 s1 hss).trans (o3 s1 h12.2)).trans (o2 s1 h12.1)).trans g1;have lt4:=bH gs;have hdl:(dig Z b++List.replicate k 0).length=bZ a:=by simp only[Zm,Zh];show bZ b+k=_;omega
 have sD:aH Z (dig Z b++List.replicate k 0):=se (cJ ax b) (qg _);have vD:val Z (dig Z b++List.replicate k 0)=b:=by rw[mE,iS ax]
 have rdS:=rd (fun t=>∃l,t=sP h4 s1 e1 ex1 l) (fun g ⟨l,hg⟩=>by rw[hg];unfold sP;rw[List.getElem?_set_ne hss]);obtain⟨c1,c2,c3⟩:=SU (n:=bZ a) rfl hdl (cJ ax a) sD (iS ax a) vD hba
 have bk:=KE (g:=1) (at_:=0) (tot:=bZ a+1) (l:=dig Z a++[0]) (ex:=ex1) (e:=e1) (s:=s1) (h:=h4) (nv4.all _) lt4 rdS sD Lt (by rw[hdl];omega) aa (by simp[bZ]) (se (cJ ax a) (qg 1));rw[Pq gs]at bk;refine jC (u:=.mk) (pT bk ?_ af);exact G8 nv4 lt4 c3 c1 c2 aa (fun v=>.tup [v,I 0]) (fun _=>aG rfl rfl)
theorem xI(h:sdg z<=w):z.natAbs<10^w:=by
 have:ndg z.natAbs<=w:=by unfold sdg at h;omega
 exact Z1 (cY _) (Z4 ae this)
theorem tc(h1 : -9223372036854775808<z)(h2:z<9223372036854775808):CP Y F.fG [I z] (S (itoa z)):=by refine DZ ?_;simp[fG];refine cd (DG h1 h2) ?_;exact fD rfl
theorem vr{a b:Nat}(ha:ndg a<=k)(hb:ndg b<=k):ndg (a+b)<=k+1:=by have h1:a<10^k:=Z1 (cY a) (Z4 ae ha);have h2:b<10^k:=Z1 (cY b) (Z4 ae hb);exact cN (by rw[Nat.pow_succ];omega) aa
theorem YU{w:Int}(hz:ndg z.natAbs<999999)(hw:ndg w.natAbs<999999): 
  cal (CX Y).p [] (.fn F.aR [] []) [S (itoa z)] fun v6 h=>
  ext v6 0 fun v7=>
  ext v6 1 fun v8=>
  cal (CX Y).p h (.fn F.aR [] []) [S (itoa w)] fun v9 h=>
  ext v9 0 fun v10=>
  ext v9 1 fun v11=>
  bnd (biB .eql v7 v10) fun v12=>
  cnd v12 (
   cal (CX Y).p h (.fn F.ii [] []) [v8,v11] fun v13 h=>
   cal (CX Y).p h (.fn F.cF [] []) [v7,v13] fun v14 h=>
   out (S (itoa (z+w))) v14 h) (
   cal (CX Y).p h (.fn F.bV [] []) [v8,v11] fun v15 h=>
   bnd (biI .lss v15 (.d (.int .i64 0))) fun v16=>
   jn (fun l17 h=>
    cal (CX Y).p h (.fn F.jg [] []) [(ge l17 1),(ge l17 2)] fun v19 h=>
    ext v19 0 fun v20=>
    ext v19 1 fun v21=>
    cal (CX Y).p h (.fn F.cF [] []) [(ge l17 0),v20] fun v22 h=>
    out (S (itoa (z+w))) v22 h) fun q18=>
    cnd v16 (
     q18 [v10,v11,v8] h) (
     q18 [v7,v8,v11] h)):=by
 simp;refine cd (rZ z) ?_;simp;refine cd (rZ w) ?_;have eb:biB .eql (B (decide (z<0))) (B (decide (w<0)))=some (B (decide (z<0) == decide (w<0))):=rfl;simp[eb];by_cases hs:(z<0↔w<0)
 .simp[hs];refine cd (FJ (a:=z.natAbs) (b:=w.natAbs) aa aa) ?_;simp;have hk:ndg (z.natAbs+w.natAbs)<=999999:=vr aa aa;refine cd (m7 (decide (z<0)) (n:=z.natAbs+w.natAbs) aa) ?_;refine fD ?_;congr 1;unfold sg;by_cases h:z<0
  .simp[h];omega
  .simp[h];omega
 .simp[hs];refine cd (uO (a:=z.natAbs) (b:=w.natAbs) aa aa) ?_;simp;by_cases hlt:z.natAbs<w.natAbs
  .have hc:Big.cmp z.natAbs w.natAbs<0:=by rw[B8 hlt];decide
   refine jD (l:=[B (decide (w<0)),S (ai w.natAbs),S (ai z.natAbs)]) (h:=[]) (fun q=>by simp[hc]) ?_;simp;refine cd (B5 (a:=w.natAbs) (b:=z.natAbs) aa aa) ?_;simp;refine cd (m7 (decide (w<0)) (n:=w.natAbs-z.natAbs) (Zk (dM (Nat.sub_le ..)) aa)) ?_;refine fD ?_;congr 1;unfold sg;by_cases h:w<0
   .simp[h];omega
   .simp[h];omega
  ·have hc:¬Big.cmp z.natAbs w.natAbs<0:=by
    rcases Nat.eq_or_lt_of_not_lt hlt with h|h
    .rw[h,cmp_eq];decide
    .rw[B9 h];decide
   refine jD (l:=[B (decide (z<0)),S (ai z.natAbs),S (ai w.natAbs)]) (h:=[]) (fun q=>by simp[hc]) ?_;simp;refine cd (B5 (a:=z.natAbs) (b:=w.natAbs) aa aa) ?_;simp;refine cd (m7 (decide (z<0)) (n:=z.natAbs-w.natAbs) (Zk (dM (Nat.sub_le ..)) aa)) ?_;refine fD ?_;congr 1;unfold sg;by_cases h:z<0
   .simp[h];omega
   .simp[h];omega
theorem zB{w:Int}(hz:ndg z.natAbs<999999)(hw:ndg w.natAbs<999999):CP Y F.dp [S (itoa z),S (itoa w)] (S (itoa (z+w))):=by
 refine Kj ?_;have l1:=te z 18 ae;have l2:=te w 18 ae;have tl:=YU hz hw;simp[dp];refine cd l1 ?_;by_cases h1:sdg z<=18
 .rw[if_pos h1];simp;by_cases h2:sdg w<=18
  .rw[if_pos h2]at l2;refine aT ?_;simp;refine cd l2 ?_;have b1:=xI h1;have b2:=xI h2;simp only[Nat.reducePow]at b1 b2;obtain⟨m,hm⟩:=mnQ (z+w);rw[hm];simp(disch:=try exact ag)[hm];refine cd (tc (z:=m) aa aa) ?_;exact fD rfl
  .rw[if_neg h2]at l2;refine aT ?_;simp;refine cd l2 ?_;simp;simpa using tl
 .rw[if_neg h1];simp;refine aT ?_;simp;simpa using tl
theorem wA{w:Int}(hz:ndg z.natAbs<400000)(hw:ndg w.natAbs<400000):CP Y F.bq [S (itoa z),S (itoa w)] (S (itoa (z*w))):=by
 refine Kg ?_;have l1:=te z 9 ae;have l2:=te w 9 ae;have dm:=xZ (a:=z.natAbs) (b:=w.natAbs) aa aa
 have hk:ndg (z.natAbs*w.natAbs)<1000000:=by
  have h1:=cY z.natAbs;have h2:=cY w.natAbs;have h3:z.natAbs*w.natAbs<10^(ndg z.natAbs+ndg w.natAbs):=by rw[Y6];exact Yn h1 h2
  have:=cN h3 (by have:=md z.natAbs;omega);omega
 have e:sg (decide (z<0) !=decide (w<0)) (z.natAbs*w.natAbs)=z*w:=by
  unfold sg;by_cases h1:z<0<;>by_cases h2:w<0
  .simp[h1,h2];rw[X4 aa,X4 aa,Int.neg_mul_neg]
  .simp[h1,h2];rw[X4 aa,Wz aa,Int.neg_mul,Int.neg_neg]
  .simp[h1,h2];rw[Wz aa,X4 aa,Int.mul_neg,Int.neg_neg]
  .simp[h1,h2];rw[Wz aa,Wz aa]
 have eb:biB .neq (B (decide (z<0))) (B (decide (w<0)))=some (B (decide (z<0) !=decide (w<0))):=rfl;have jo:=m7 (decide (z<0) !=decide (w<0)) hk;rw[e]at jo
 have tail:∀u:Unit,cal (CX Y).p [] (.fn F.aR [] []) [S (itoa z)] fun v6 h=>
  ext v6 0 fun v7=>
  ext v6 1 fun v8=>
  cal (CX Y).p h (.fn F.aR [] []) [S (itoa w)] fun v9 h=>
  ext v9 0 fun v10=>
  ext v9 1 fun v11=>
  bnd (biB .neq v7 v10) fun v12=>
  cal (CX Y).p h (.fn F.ig [] []) [v8,v11] fun v13 h=>
  cal (CX Y).p h (.fn F.cF [] []) [v12,v13] fun v14 h=>
  out (S (itoa (z*w))) v14 h:=by
  intro _;simp;refine cd (rZ z) ?_;simp;refine cd (rZ w) ?_;simp[eb];refine cd dm ?_;simp;refine cd jo ?_;exact fD rfl
 simp[bq];refine cd l1 ?_;by_cases h1:sdg z<=9
 .rw[if_pos h1];simp;by_cases h2:sdg w<=9
  .rw[if_pos h2]at l2;refine aT ?_;simp;refine cd l2 ?_;have b1:=xI h1;have b2:=xI h2
   have hmb:(z*w).natAbs<1000000000000000000:=by
    rw[Y2];exact Yn b1 b2
   obtain⟨m,hm⟩:=mnQ (z*w);rw[hm]at hmb ⊢;simp(disch:=try exact ag)[hm];refine cd (tc (z:=m) aa aa) ?_;exact fD rfl
  .rw[if_neg h2]at l2;refine aT ?_;simp;refine cd l2 ?_;simp;simpa using tail ()
 .rw[if_neg h1];simp;refine aT ?_;simp;simpa using tail ()
def RdN(s:Nat)(h:Hp)(v:V)(d:LnQ):Prop:=∀h':Hp,h'.length=h.length->(∀j,j≠s->h'[j]?=h[j]?)->RdP h' v d∧∃h2,bJ h' v=some (lst u6 d,h2)
theorem RdN.step{s:Nat}{h h2:Hp}{d:LnQ}(r:RdN s h v d)(hl:h2.length=h.length)(hs:∀j,j≠s->h2[j]?=h[j]?):RdN s h2 v d:=
 fun h' h1 h3=>r h' (h1.trans hl) fun j hj=>(h3 j hj).trans (hs j hj)
theorem RdN.new{s t e N m:Nat}{h:Hp}(hst:s≠t)(hg:h[t]?=some (e,.data 1 ((dk N m).map u6) true false))(hm:m<Z^N):RdN s h (.ref t e 0 (dig Z m).length N N) (dig Z m):=fun h' hl ho=>by
 have:=DX (h:=h') (cap:=N) ((ho t (Ne.symm hst)).trans hg) (cT ..).symm (iL hm);rw[nK hm]at this;have sn:=wL (h:=h') ((ho t (Ne.symm hst)).trans hg) (cT ..).symm (len:=(dig Z m).length) (cap:=N) (iL hm) (Z7 _);rw[nK hm]at sn;exact⟨this,_,sn⟩
def dgF(unit two:Nat):Nat->Nat->Nat->Nat->Option Nat
 |0,_,_,out=>some out
 | r+1,low,high,out=>
  cond (Nat.ble two (low*low/unit)) (dgF unit two r (low*low/unit/2) ((high*high/unit+1)/2+1) (out+out+1))
   (cond (Nat.ble two (high*high/unit+1)) none (dgF unit two r (low*low/unit) (high*high/unit+1) (out+out)))
def AO(p n more:Nat):Option Nat:=dgF (2^more) (2^more+2^more) n (p*2^(more-(aY p-1))) (p*2^(more-(aY p-1))) (aY p-1)
theorem ut{a b:Nat}(ha:ndg a<999999)(hb:ndg b<999999):CP Y F.dp [S (ai a),S (ai b)] (S (ai (a+b))):=by have:=zB (z:=(a:Int)) (w:=(b:Int)) (by trivial) (by trivial);trivial
theorem wC{a b:Nat}(ha:ndg a<400000)(hb:ndg b<400000):CP Y F.bq [S (ai a),S (ai b)] (S (ai (a*b))):=by have:=wA (z:=(a:Int)) (w:=(b:Int)) (by trivial) (by trivial);trivial
def CU(p n:Nat):Option Nat:=if p=2 then some (2^n)else AO p n (n+64)
theorem o5(P:Nat):∀(n lo hi:Nat)(l:List Bool),qx P n lo hi=some l->l.length=n
 | 0,lo,hi,l,h=>by
  have:l=[]:=by simpa[qx]using h.symm
  rw[this];rfl
 | n+1,lo,hi,l,h=>by
  simp only[qx]at h;split at h
  .cases h
  split at h
  .split at h
   .obtain⟨l2,e1,rfl⟩:=Z3.1 h;simp[o5 P n _ _ l2 e1]
   .cases h
  .split at h
   .cases h
   .obtain⟨l2,e1,rfl⟩:=Z3.1 h;simp[o5 P n _ _ l2 e1]
theorem Co(w v P:Nat)(s1 s2:Nat×Bk):([(1,.vars [.d (.sl w ((wds w v).map u6)),.d (.sl w ((wds w v).map u6)),I P]),s1,s2]:Hp)=mnH w v v P s1 s2:=by simp[mnH,lst,aM]
theorem xl(A:k8){p P:Nat}(hw:w=P/64+2)(hP:P<100000)(hk:k<=P)(hp:p<128)(hn:n<100000)(he:qx P n (p*2^(P-k)) (p*2^(P-k))=some l):
  CP Y F.ff [I p,I k,I n,I P] (.tup [lst mnD l,B true]):=by
 refine oA ?_;have bg:=yO hw hP hk hp;have hl:=o5 P n _ _ l he;have main:=fun x0 y0 K h=>yh A hw hP hn x0 y0 K n 0 (p*2^(P-k)) (p*2^(P-k)) [] l aa rfl he h
 simp[ff];refine jC (BR (s:=0) (e:=0) (b:=.none) bg rfl ?_)
 have eh:(b3.set 0 (0+1,Bk.vars (([.sl w ((wds w (p*2^(P-k))).map u6),.sl w ((wds w (p*2^(P-k))).map u6),.int .i64 P]:LdQ).map .d)))=mnH w (p*2^(P-k)) (p*2^(P-k)) P nnQ (mnA.b 0 (([]:List Bool).map mnD)):=by
  rw[<-Co];rfl
 rw[eh];simp;refine lo (main _ _ _ fun lo hi=>?_);obtain⟨h',q1,_⟩:=uR mnA (L:=n) (cells:=l.map mnD) (h:=mnH w lo hi P nnQ (mnA.b n (l.map mnD))) rfl (by simp[hl,mnA]);have e:lst mnD l=.d (.sl n (l.map mnD)):=by rw[<-hl];rfl
 rw[e];exact aG q1 rfl
theorem sJ:∀(a b:List Bool)(v:Nat),jQ v (a++b)=jQ (jQ v a) b
 |[],_,_=>rfl
 |x::a,b,v=>by simp only[List.cons_append,jQ,sJ a b]
theorem nA:∀(a:List Bool)(v:Nat),jQ v a=v*2^a.length+jQ 0 a
 |[],v=>by simp[jQ]
 | x::a,v=>by
  simp only[jQ,List.length_cons,Xl,Zp];rw[nA a (v*2+_),nA a (if x=true then 1 else 0),Nat.add_mul,Nat.pow_succ];have:v*2*2^a.length=v*(2^a.length*2):=by ac_rfl
  omega
theorem qT:∀(a:List Bool),jQ 0 a<2^a.length
 |[]=>by decide
 | x::a=>by
  have h:=qT a;simp only[jQ,List.length_cons,Xl,Zp];rw[nA a,Nat.pow_succ];have:=Zq a.length;cases x<;>simp<;>omega
theorem Cm(hi:i<l.length)(H:Hp):ixV H 1 (lst mnD l) (I i)=some (.dptr (l.map mnD) i)∧ld1 H (.dptr (l.map mnD) i)=some (B (nth false l i)):=
 ⟨aJ mnD l H rfl hi,aC mnD false l H hi⟩
theorem yf{l:List Bool}(hl:l.length<=28)(H:Hp)(K:KL)(hK:K (.exit 4) [I (jQ 0 l)] H):∀(q a:List Bool),a++q=l ->
  lp (ed (CX Y) (lst mnD l) (I l.length)) [] H [I (jQ 0 a),I a.length] H K
 | [],a,h=>by
  have e:a=l:=by simpa using h
  subst e;refine aj ?_;simp[ed];exact hK
 | b::q,a,h=>by
  have hll:l.length=a.length+(q.length+1):=by rw[<-h];simp
  have ih:=yf hl H K hK q (a++[b]) (by simpa using h);have hb:jQ 0 (a++[b])<2^28:=Z1 (qT _) (Z4 ae bK);have hv:jQ 0 (a++[b])=jQ 0 a*2+(if b then 1 else 0):=by rw[sJ];rfl
  rw[hv]at ih hb;have hn:nth false l a.length=b:=by rw[<-h,bM]
  obtain⟨i1,i2⟩:=Cm (l:=l) (i:=a.length) aa H;rw[hn]at i2;have g:(a.length:Int)<l.length:=aa;have e2:((a++[b]).length:Int)=(a.length:Int)+1:=af;rw[e2]at ih;have h28:(2:Nat)^28=268435456:=ae;rw[h28]at hb;have hre:au [] 0 H H=H:=aX 0 H H rfl;generalize jQ 0 a=z at *;refine aj ?_;simp(disch:=try exact ag)[ed,g,i1,i2]
  refine aT ?_;simp(disch:=try exact ag)[i1,i2];cases b with
  | false=>
   simp at ih hb;refine aT ?_;simp(disch:=try exact ag)[hre];exact ih
  | true=>
   simp at ih hb;refine aT ?_;simp(disch:=try exact ag)[hre];exact ih
set_option exponentiation.threshold 5000 in
theorem yg(H:Hp)(K:KL):∀(m:Nat)(l:List Bool)(v:Nat),l.length<=28*m->l.length<=1000->v<2^(1010-l.length)->K (.exit 2) [S (ai (jQ v l))] H ->
  lp (cU (CX Y)) [] H [S (ai v),lst mnD l] H K
 | 0,l,v,hm,h64,hv,hK=>by
  have e:l=[]:=Xq.1 aa;subst e;refine aj ?_;simp[cU];exact hK
 | m+1,l,v,hm,h64,hv,hK=>by
  by_cases h0:l=[]
  .subst h0;refine aj ?_;simp[cU];exact hK
  have hl0:0<l.length:=Xj.2 h0;obtain⟨g,hg⟩:=nmQ (min l.length 28);have g1:g<=l.length:=aa;have g2:g<=28:=aa;have g3:0<g:=aa;have tl:(l.take g).length=g:=by simp;omega
  have hb:=qT (l.take g);rw[tl]at hb;have e1:jQ v l=jQ (jQ v (l.take g)) (l.drop g):=by rw[<-sJ,Yi]
  have e2:jQ v (l.take g)=v*2^g+jQ 0 (l.take g):=by rw[nA,tl]
  have hv2:jQ v (l.take g)<2^(1010-(l.drop g).length):=by
   rw[e2,Yo,show 1010-(l.length-g)=(1010-l.length)+g by omega,Y6];have:=Zz (2^g) (show v+1<=2^(1010-l.length)from hv);rw[Nat.add_mul,Xr]at this;omega
  have ih:=yg H K m (l.drop g) (jQ v (l.take g)) (by rw[Yo];omega) (by rw[Yo];omega) hv2 (by rw[<-e1];exact hK);rw[e2]at ih
  have hv70:v<10^310:=by
   have h1:(2:Nat)^(1010-l.length)<=2^1010:=Z4 ae aa;have h2:(2:Nat)^70<=10^310:=ae;omega
  have hg28:2^g<=2^28:=Z4 ae g2;have h28:(2:Nat)^28=268435456:=ae;have hgp:=Zq g;have n1:ndg v<=310:=cN hv70 ae;have n2:ndg (2^g)<=310:=cN (Zk hg28 ae) ae
  have hm30:v*2^g<10^330:=by
   have h1:v*2^g<=10^310*2^28:=Zn aa hg28;have h2:(10:Nat)^30*2^28<10^330:=ae;omega
  have n3:ndg (v*2^g)<=330:=cN hm30 ae;obtain⟨a,ha⟩:=nmQ (jQ 0 (l.take g));rw[<-ha]at hb ih;have n4:ndg a<=310:=cN (Z1 hb (Zu hg28 ae)) ae;have o1:=N7 (n:=2^g) aa;have o2:=N7 (n:=a) aa;have mu:=wC (a:=v) (b:=2^g) aa aa
  have ad:=ut (a:=v*2^g) (b:=a) aa aa
  have mx:mxI false [I l.length,I 28]=some (I g):=by
   simp[mxI,mx2];omega
  have s1:=afx (h:=H) (i:=(g:Int)) mnD l hl0 rfl g1;have s2:=afw (h:=H) (i:=(g:Int)) mnD l hl0 rfl g1;have ll:bj (lst mnD l)=some (I l.length):=rfl;have lt:bj (lst mnD (l.take g))=some (I g):=by rw[show bj (lst mnD (l.take g))=some (I (l.take g).length)from rfl,tl]
  have l2:=fun K hK=>yf (l:=l.take g) aa H K hK (l.take g) [] rfl
  rw[tl,<-ha]at l2
  have sh:biI .shl (I 1) (I g)=some (I ((2^g:Nat):Int)):=by
   have e:(1:Int)*2^((g:Int)).toNat=((2^g:Nat):Int):=af;rw[agO aa aa,e];generalize 2^g=G at hg28;rw[wrap_i64 ⟨aa,aa⟩]
  have gp:(0:Int)<l.length:=aa;have hre:au [] 0 H H=H:=aX 0 H H rfl;refine aj ?_;simp(disch:=try exact ag)[cU,ll,gp,mx,s1,lt];refine lo (l2 _ ?_);simp(disch:=try exact ag)[sh];refine cd o1 ?_;simp;refine cd mu ?_;simp;refine cd o2 ?_;simp;refine cd ad ?_;simp[s2,hre];exact ih
def zH(n:Nat):Hp:=[(1,.data 1 (List.replicate n (.bool false)) true false)]
theorem C5{len:Nat}(hg:g<=len)(h:off+len=n):slV (zH n) 1 (.ref 0 1 off len len n) none (some (I g))=some (.ref 0 1 off g len n):=by have:(g:Int)<=len:=aa;simp[slV,zH,aw,boV,this]
theorem C2{len:Nat}(hg:g<=len)(h:off+len=n):slV (zH n) 1 (.ref 0 1 off len len n) (some (I g)) none=some (.ref 0 1 (off+g) (len-g) (len-g) n):=by have:(g:Int)<=len:=aa;simp[slV,zH,aw,boV,this]
theorem C1{len:Nat}(hi:i<g)(hg:g<=len)(h:off+len=n):∃w,ixV (zH n) 1 (.ref 0 1 off g len n) (I i)=some w∧ld1 (zH n) w=some (B false):=by
 have h1:(i:Int)<g:=aa;have h2:(List.replicate n (D.bool false))[off+i]?=some (.bool false):=by rw[List.getElem?_replicate,if_pos aa]
 refine⟨.ptr 0 1 (off+i) n,?_,?_⟩
 .simp[ixV,zH,aw,h1]
  try omega
 .simp[ld1,zH,aw,h2]
theorem vU{n off g len:Nat}(hg:g<=len)(h:off+len=n)(hg28:g<=28)(K:KL)(hK:K (.exit 4) [I 0] (zH n)):∀(k i:Nat),i+k=g ->
  lp (ed (CX Y) (.ref 0 1 off g len n) (I g)) [] (zH n) [I 0,I i] (zH n) K
 | 0,i,hi=>by
  have e:i=g:=aa;subst e;refine aj ?_;simp[ed];exact hK
 | k+1,i,hi=>by
  have ih:=vU hg h hg28 K hK k (i+1) aa;obtain⟨w,i1,i2⟩:=C1 (i:=i) aa hg h;have gi:(i:Int)<g:=aa;have e2:((i+1:Nat):Int)=(i:Int)+1:=af;rw[e2]at ih;have hre:au [] 0 (zH n) (zH n)=zH n:=aX 0 _ _ rfl;generalize zH n=H at *
  have i1':ixX (fh H 0 1) 1 0 1 off g n (i:Int)=some w:=by
   rw[<-i1];unfold fh;simp only[ixV,ixX];cases aw H 0 1<;>rfl
  refine aj ?_;simp(disch:=try exact ag)[ed,gi,i1,i1',i2];refine aT ?_;simp(disch:=try exact ag)[i1,i1',i2];refine aT ?_;simp(disch:=try exact ag)[hre];exact ih
set_option exponentiation.threshold 5000 in
theorem we{n:Nat}(hn:n<=1000)(K:KL):∀(m len off v:Nat),off+len=n->len<=28*m->v<2^(1010-len)->K (.exit 2) [S (ai (v*2^len))] (zH n) ->
  lp (cU (CX Y)) [] (zH n) [S (ai v),.ref 0 1 off len len n] (zH n) K
 | 0,len,off,v,h,hm,hv,hK=>by
  have e:len=0:=aa;subst e;rw[Nat.pow_zero,Yc]at hK;refine aj ?_;simp[cU];exact hK
 | m+1,len,off,v,h,hm,hv,hK=>by
  by_cases h0:len=0
  .subst h0;rw[Nat.pow_zero,Yc]at hK;refine aj ?_;simp[cU];exact hK
  obtain⟨g,hg⟩:=nmQ (min len 28);have g1:g<=len:=aa;have g2:g<=28:=aa
  have hv2:v*2^g<2^(1010-(len-g)):=by
   rw[show 1010-(len-g)=(1010-len)+g by omega,Y6];exact Yb hv (Zq g)
  have ih:=we hn K m (len-g) (off+g) (v*2^g) aa aa hv2 (by
   rw[Nat.mul_assoc,<-Y6,show g+(len-g)=len by omega];exact hK)
  have hv70:v<10^310:=by
   have h1:(2:Nat)^(1010-len)<=2^1010:=Z4 ae aa;have h2:(2:Nat)^70<=10^310:=ae;omega
  have hg28:2^g<=2^28:=Z4 ae g2;have h28:(2:Nat)^28=268435456:=ae;have hgp:=Zq g;have n1:ndg v<=310:=cN hv70 ae;have n2:ndg (2^g)<=310:=cN (Zk hg28 ae) ae
  have hm30:v*2^g<10^330:=by
   have h1:v*2^g<=10^310*2^28:=Zn aa hg28;have h2:(10:Nat)^30*2^28<10^330:=ae;omega
  have n3:ndg (v*2^g)<=330:=cN hm30 ae;have n4:ndg 0<=310:=cN ae ae;have o1:=N7 (n:=2^g) aa;have o2:CP Y F.fG [I 0] (S (ai 0)):=N7 (n:=0) ae;have mu:=wC (a:=v) (b:=2^g) aa aa;have ad:=ut (a:=v*2^g) (b:=0) aa aa;rw[Nat.add_zero]at ad
  have mx:mxI false [I len,I 28]=some (I g):=by
   simp[mxI,mx2];omega
  have s1:=C5 g1 h;have s2:=C2 g1 h;have l2:=fun K hK=>vU g1 h g2 K hK g 0 aa
  have sh:biI .shl (I 1) (I g)=some (I ((2^g:Nat):Int)):=by
   have e:(1:Int)*2^((g:Int)).toNat=((2^g:Nat):Int):=af;rw[agO aa aa,e];generalize 2^g=G at hg28;rw[wrap_i64 ⟨aa,aa⟩]
  have gp:(0:Int)<len:=aa;have hre:au [] 0 (zH n) (zH n)=zH n:=aX 0 _ _ rfl;have ll:∀a b c:Nat,bj (.ref 0 1 a b c n)=some (I b):=fun _ _ _=>rfl
  generalize zH n=H at *;refine aj ?_;simp(disch:=try exact ag)[cU,ll,gp,mx,s1];refine lo (l2 _ ?_);simp(disch:=try exact ag)[sh];refine cd o1 ?_;simp;refine cd mu ?_;simp;refine cd o2 ?_;simp;refine cd ad ?_;simp[s2,hre];exact ih
theorem D5{p:Nat}(hp:ta (p:Int)=true):∃k,aY p=k+1∧bln p-1=k∧1<=k∧k<=6∧p<=97∧2<=p∧CP Y F.ku [.d (.int .u64 p)] (I ((k:Int)+1))∧CP Y F.fG [I k] (S (ai k)):=by
 have hp97:=lJ hp
 have nb:aY p<=7∧2<=aY p:=by
  have h1:=(Nat.log2_lt (n:=p) (k:=7) aa).2 aa;have h2:=(Nat.le_log2 (n:=p) (k:=1) aa).2 aa;unfold aY;split<;>omega
 obtain⟨k,hk⟩:∃k,aY p=k+1:=⟨aY p-1,aa⟩;have ln:=Qj (n:=p) aa;have ek:((aY p:Nat):Int)=(k:Int)+1:=aa;rw[ek]at ln
 have eb:bln p-1=k:=by
  have:bln p=aY p:=rfl;omega
 exact⟨k,hk,eb,aa,aa,aa,aa,ln,N7 (n:=k) aa⟩
theorem D8(hn:n<=1000):CP Y F.fc [I 2,I n] (S (ai (2^n))):=by
 obtain⟨k,hk,eb,k1,k6,p97,p2,ln,o1⟩:=D5 (p:=2) ae
 obtain rfl:k=1:=by
  have:aY 2=2:=ae;omega
 refine mf ?_;have l1:=fun K hK=>we hn K 36 n 0 1 aa aa (Nat.one_lt_two_pow aa) hK
 rw[Xr]at l1;have e0:[(1,Bk.data 1 (List.replicate n (D.bool false)) true false)]=zH n:=rfl;simp(disch:=try exact ag)[fc];refine cd ln ?_;simp(disch:=try exact ag);refine cd o1 ?_;simp(disch:=try exact ag);refine aT ?_;simp(disch:=try exact ag)[e0];refine lo (aj ?_)
 simp(disch:=try exact ag)[jW];refine lo (l1 _ ?_);simp;exact⟨_,rfl⟩
theorem D9(A:k8){p n:Nat}(hp:ta (p:Int)=true)(h2:p≠2)(hn:n<=1000){l:List Bool}(he:qx (n+64) n (p*2^(n+64-(bln p-1))) (p*2^(n+64-(bln p-1)))=some l) :
  CP Y F.fc [I p,I n] (S (ai (jQ (bln p-1) l))):=by
 obtain⟨k,hk,eb,k1,k6,p97,p2,ln,o1⟩:=D5 hp;rw[eb]at he ⊢;have hl:=o5 _ _ _ _ _ he;refine mf ?_;have dg:=xl A (p:=p) (k:=k) (n:=n) (P:=n+64) rfl aa aa aa aa he;have eP:((n+64:Nat):Int)=(n:Int)+64:=af;rw[eP]at dg
 have hk7:k<2^(1010-l.length):=Z1 (show k<2^6 by omega) (Z4 ae aa);have l1:=fun H K hK=>yg H K 36 l k aa aa hk7 hK
 have g2:¬(p:Int)=2:=aa;simp(disch:=try exact ag)[fc];refine cd ln ?_;simp(disch:=try exact ag);refine cd o1 ?_;simp(disch:=try exact ag)[g2];refine aT ?_;simp(disch:=try exact ag);refine lo (aj ?_);simp(disch:=try exact ag)[jW,g2];refine cd dg ?_
 simp(disch:=try exact ag);refine lo (l1 _ _ ?_);simp;exact⟨_,rfl⟩
theorem uy(A:k8){p:Nat}(hp:ta (p:Int)=true)(hn:n<=64):∃N,pq p n 160=some N∧N<2^71∧CP Y F.fc [I p,I n] (S (ai N)):=by
 by_cases h2:p=2
 .subst h2;exact⟨2^n,Bf ⟨n,aa⟩,Nat.pow_lt_pow_right ae aa,D8 aa⟩
 .obtain⟨l,he,hlog⟩:=CJ hp h2 hn;obtain⟨k,hk,eb,k1,k6,p97,p2,ln,o1⟩:=D5 hp;refine⟨_,hlog,?_,D9 A hp h2 aa he⟩;have hl:=o5 _ _ _ _ _ he;rw[nA,eb];have h1:=qT l;have h3:(k+1)*2^l.length<=2^6*2^64:=Zn aa (Z4 ae aa);have h4:(2:Nat)^6*2^64<2^71:=ae
  rw[Nat.add_mul,Xr]at h3;omega
abbrev Bd:=Int×Int×LuQ
def pR(x:Bd):LdQ:=[.int .i64 x.1,.int .i64 x.2.1,.str x.2.2]
theorem wQ(x:Bd):(pR x).length=3:=rfl
def kr:Nat->List (Int×Nat)->LiQ
 |_,[]=>[]
 |i,x::q=>if x.1=0 then kr (i+1) q else(i:Int)::kr (i+1) q
def bdB(b:Bd):Bool:=c8 b.1 b.2.1 b.2.2
def atI(sg:Int)(b:Bd)(x:Int×Nat):Int:=if b.1≠2∧(decide (x.1<0)=decide (sg=1))then(rd b.2.2).getD 0+1 else(rd b.2.2).getD 0
def oo(p:LiQ)(l:List (Int×Nat))(sg bits:Int):LiQ->List Bd->Int×Nat->Option (Int×Nat)
 |o::own,b::bs,sum=>if b.1=nth 0 p o.toNat∧b.2.1=bits∧bdB b=true then oo p l sg bits own bs (uw sum ((nth (0,0) l o.toNat).1*atI sg b (nth (0,0) l o.toNat),(nth (0,0) l o.toNat).2*1))else none
 |_,_,sum=>some sum
def xK(p:LiQ)(sg bits:Int)(bs:List Bd)(l:List (Int×Nat))(own:LiQ):Bool:=
 if sg=0 then decide (own.length=0)&&decide (bits=0)&&decide (bs.length=0)
 else if(sg≠1∧sg≠-1)∨own.length=0∨bs.length≠own.length then false
 else match oo p l sg bits own bs (0,1)with
  |some sum=>decide (sum.1=0)||(decide (sum.1<0) == decide (sg<0))
  |none=>false
def zr(p:LiQ)(s:List Tx)(sg bits:Int)(bs:List Bd):Bool:=
 if oH p s=true then xK p sg bits bs ((jK s).getD []) (kr 0 ((jK s).getD []))else false
theorem iI(h:z.natAbs<10^k)(hk:k<1000000):fits z:=by have:=oT h;have h40:(2:Nat)^40=1099511627776:=ae;unfold fits;omega
theorem zO(h:n<10^k)(hk:k<1000000):len n<2^40:=by have:=oT h;have h40:(2:Nat)^40=1099511627776:=ae;omega
theorem nF{a b j:Nat}(ha:a<10^i)(hb:b<10^j):a*b<10^(i+j):=by rw[Y6];exact Yn ha hb
theorem zW{a b:Int×Nat}(ha1:a.1.natAbs<10^M)(ha2:a.2<10^M)(hb1:b.1.natAbs<10^801)(hb2:b.2<10^401)(hM:801<=M):(uw a b).1.natAbs<10^(M+802)∧(uw a b).2<10^(M+802):=by
 have hp:∀i j:Nat,i<=j->(10:Nat)^i<=10^j:=fun i j h=>Z4 ae h
 unfold uw;split
 .have h1:=hp 801 M hM;have h2:(10:Nat)^(M+802)=10^M*10^802:=Y6 ..;have h3:2<=(10:Nat)^802:=Zu (by decide:2<=10^1) (hp 1 802 aa);have h4:=Zw (10^M) h3;simp only;constructor<;>omega
 .have h1:=nF ha1 hb2;have h2:=nF hb1 ha2;have h3:=nF ha2 hb2;have e1:(a.1*(b.2:Int)).natAbs=a.1.natAbs*b.2:=by rw[Y2,Int.natAbs_natCast]
  have e2:(b.1*(a.2:Int)).natAbs=b.1.natAbs*a.2:=by rw[Y2,Int.natAbs_natCast]
  have h4:=hp (M+401) (M+801) aa;have h5:(10:Nat)^(M+802)=10^(M+801)*10:=Nat.pow_succ ..;rw[Xd 801 M]at h2;simp only;constructor
  .have:=Int.natAbs_add_le (a.1*(b.2:Int)) (b.1*(a.2:Int));omega
  .omega
theorem A5{a b:LuQ}{f:Int×Nat}(h:rdF a b=some f):f.1.natAbs<10^400∧f.2<10^400:=by
 unfold rdF at h;cases h1:rd a with
 |none=>rw[h1]at h;cases h
 | some n=>
  cases h2:rd b with
  |none=>rw[h1,h2]at h;cases h
  | some d=>
   rw[h1,h2]at h;simp only at h;split at h
   .simp only[Z9]at h;subst h;exact⟨Ud h1,Ud h2⟩
   .cases h
theorem tE:∀{s:List Tx}{l:List (Int×Nat)},jK s=some l->∀f∈l,f.1.natAbs<10^400∧f.2<10^400
 |[],l,h=>by simp only[jK,Z9]at h;subst h;intro f hf;cases hf
 | x::q,l,h=>by
  simp only[jK]at h;cases h1:rdF x.1 x.2 with
  |none=>rw[h1]at h;cases h
  | some f=>
   cases h2:jK q with
   |none=>rw[h1,h2]at h;cases h
   | some m=>
    rw[h1,h2]at h;simp only[Z9]at h;subst h;intro g hg;rcases Zo.1 hg with rfl|hg
    .exact A5 h1
    .exact tE h2 g hg
theorem CM{b:Bd}(h:bdB b=true):∃z:Nat,rd b.2.2=some (z:Int)∧z<10^400:=by
 unfold bdB c8 at h;cases hr:rd b.2.2 with
 |none=>rw[hr]at h;cases h
 | some z=>
  rw[hr]at h;simp only[Z8,decide_eq_true_eq]at h;have:=Ud hr;exact⟨z.toNat,by congr 1;omega,aa⟩
theorem tz:∀(l:List (Int×Nat))(i:Nat),(kr i l).length<=l.length
 |[],i=>by simp[kr]
 | x::q,i=>by
  have ih:=tz q (i+1);simp only[kr];split
  .simp;omega
  .simp;omega
theorem tw:∀(l:List (Int×Nat))(i:Nat),∀o∈kr i l,(i:Int)<=o∧o<(i+l.length:Nat)
 |[],i,o,h=>by simp[kr]at h
 | x::q,i,o,h=>by
  have ih:=tw q (i+1) o;simp only[kr]at h;split at h
  .have:=ih h;simp at this ⊢;omega
  .rcases Zo.1 h with rfl|h
   .simp;omega
   .have:=ih h;simp at this ⊢;omega
def snA:Acc:=⟨2,0,1,.none⟩
def snH(c:Nat×Bk)(own:LiQ):Hp:=[c,nnQ,snA.b own.length (own.map di),nnQ,nnQ,nnQ,nnQ]
theorem vd(c:Nat×Bk)(hc:offB [1] c.2=true){l:List (Int×Nat)}(hN:l.length<1000000000)(k:KL)(h0:Hp)(hh:h0=[c,nnQ,nnQ,nnQ,nnQ,nnQ,nnQ]):∀(q a:List (Int×Nat))(d:LiQ),a++q=l->d.length<=a.length ->
  k (.exit 0) [snA.v (d++kr a.length q).length ((d++kr a.length q).map di)] (snH c (d++kr a.length q)) ->
  lp (jl (CX Y) (qm frC l) (I l.length)) [1] h0 [snA.v d.length (d.map di),I a.length] (snH c d) k
 | []=>by
  intro a d ha hd hk;simp at ha;subst ha;refine aj ?_;simp(disch:=try exact ag)[jl];simpa[kr]using hk
 | x::q=>by
  intro a d ha hd hk;have hal:a.length<l.length:=by subst ha;simp
  have hx:nth (0,0) l a.length=x:=by subst ha;simp
  have e1:=fun h:Hp=>oU frC nJ l h (k:=.i64) (i:=(a.length:Int)) aa aa
  have e2:=fun h:Hp=>ot frC nJ (0,0) l h hal
  simp only[hx,Int.toNat_natCast,ye]at e1 e2;have ih:=vd c hc hN k h0 hh q (a++[x]);have hoS:∀L c,kH [1] (snA.v L c)=true:=fun L c=>oe _ _ _ _ rfl
  have hoB:∀L c,offB [1] (snA.b L c).2=true:=fun L c=>fO _ _ _ _ rfl
  refine aj ?_;subst hh;simp(disch:=try exact ag)[jl];refine aT ?_;simp(disch:=try exact ag)[e1,e2,snH,jF,frL];refine cd (xu x.1 x.2) ?_;simp only[kr]at hk;by_cases hz:x.1=0
  .rw[if_pos hz]at hk;simp(disch:=try exact ag)[hz];refine aT ?_;have:=ih d (by simpa using ha) bK (by simpa using hk);simp(disch:=try exact ag)[clean,dT,hoS,mZ,jm,hoB,qk,lK,hc,vi,Hu,BE,vq,beq_lit];simpa[snA,snH]using this
  .rw[if_neg hz]at hk;simp(disch:=try exact ag)[hz];refine aT ?_;have:=ih (d++[(a.length:Int)]) (by simpa using ha) bK (by simpa using hk)
   have hli:∀H:Hp,cO 1 [D.int IntKind.i64 0] [(0,I (a.length:Int))] H=some ([di a.length],H):=fun H=>by
    simp[cO,jv,iH,toD,di]
   simp(disch:=try exact ag)[hli];refine hO snA (k:=1) (cs:=[di a.length]) aa (by rfl) (by simp[snA]) rfl rfl af aa (by simp[snA]) ?_;simp(disch:=try exact ag)[show snA.s=2 from rfl,clean,dT,hoS,mZ,jm,hoB,qk,lK,hc,vi,Hu,BE,vq,beq_lit]
   simpa[snA,snH,Acc.v,Acc.b,kH,offB,BE,vq,beq_lit]using this
def sgH(cv:LwQ)(own:LiQ)(sum:Int×Nat):Hp:=[(1,.vars cv),nnQ,(1,.data 1 (own.map di) false false),(1,.vars (frL sum.1 sum.2)),nnQ,nnQ,nnQ]
theorem tb{p:LiQ}{l:List (Int×Nat)}{sg bits:Int}{bs:List Bd}{own:LiQ}(hN:bs.length<1000)(hob:bs.length=own.length)(ho:∀o∈own,0<=o∧o<l.length)(hlp:l.length=p.length)(hpl:p.length<1000)(hl:∀f∈l,f.1.natAbs<10^400∧f.2<10^400)(k:KL)(c2:V)(hc2:kH [4,5,6] c2=true)
  (h0:Hp) (hh:h0=sgH [I sg,I bits,c2] own (0,1)):∀(q a:List Bd)(oq oa:LiQ)(sum:Int×Nat),a++q=bs->oa++oq=own->oa.length=a.length->sum.1.natAbs<10^(801+802*a.length)->sum.2<10^(801+802*a.length) ->
  (∀r,oo p l sg bits oq q sum=some r->k (.exit 2) [] (sgH [I sg,I bits,c2] own r))->(oo p l sg bits oq q sum=none->∀h,k .ret [B false] h) ->
  lp (eT (CX Y) (lst di p) (.ptr 0 1 0 3) (qm frC l) (.ref 2 1 0 own.length own.length own.length) (.ptr 3 1 0 3) (qm pR bs) (I bs.length)) [4,5,6] h0 [I a.length] (sgH [I sg,I bits,c2] own sum) k
 | []=>by
  intro a oq oa sum ha hoa hla hs1 hs2 h1 h2;simp at ha;subst ha;refine aj ?_;simp(disch:=try exact ag)[eT];refine h1 sum ?_;cases oq<;>rfl
 | b::q=>by
  intro a oq oa sum ha hoa hla hs1 hs2 h1 h2;cases oq with
  | nil=>
   exfalso;have e1:=congrArg List.length ha;have e2:=congrArg List.length hoa;simp at e1 e2;omega
  |cons o oq=>
  have hal:a.length<bs.length:=by subst ha;simp
  have halo:a.length<own.length:=aa;have hb:nth (0,0,[]) bs a.length=b:=by subst ha;simp
  have hno:nth 0 own a.length=o:=by subst hoa;rw[<-hla];simp
  have hoo:=ho o (by subst hoa;simp);have e1:=fun h:Hp=>oU pR wQ bs h (k:=.i64) (i:=(a.length:Int)) aa aa
  have e2:=fun h:Hp=>ot pR wQ (0,0,[]) bs h hal
  simp only[hb,Int.toNat_natCast]at e1 e2;have eO:∀(x y:Nat×Bk)(r:Hp),ixV (x::y::(1,.data 1 (own.map di) false false)::r) 1 (.ref 2 1 0 own.length own.length own.length) (.d (.int .i64 (a.length:Int)))=some (.ptr 2 1 a.length own.length):=fun x y r=>ixB rfl rfl halo _
  have eOl:∀(x y:Nat×Bk)(r:Hp),ld1 (x::y::(1,.data 1 (own.map di) false false)::r) (.ptr 2 1 a.length own.length)=some (.d (di (nth 0 own a.length))):=fun x y r=>ldB 0 rfl rfl halo
  simp only[hno]at eOl;have f1:=fun h:Hp=>oU frC nJ l h (k:=.i64) (i:=o) aa aa
  have f2:=fun h:Hp=>ot frC nJ (0,0) l h (j:=o.toNat) aa
  obtain⟨x,hx⟩:=mnQ (nth (0,0) l o.toNat);have hxl:=hl x (by rw[<-hx];exact aQ aa);simp only[hx,ye]at f2;simp only[oo,hx]at h1 h2;obtain⟨pv,hpv⟩:=mnQ (nth 0 p o.toNat);rw[hpv]at h1 h2;have hbo:=jX b.1 b.2.1 b.2.2;have ih:=tb hN hob ho hlp hpl hl k c2 hc2 h0 hh q (a++[b]) oq (oa++[o]);refine aj ?_;subst hh;by_cases g1:b.1=pv
  rotate_left
  .have:=h2 (by rw[if_neg (fun h=>g1 h.1)]);simp(disch:=try exact ag)[eT,e1,e2,pR,sgH,eO,eOl,hpv,g1];exact this _
  by_cases g2:b.2.1=bits
  rotate_left
  .have:=h2 (by rw[if_neg (fun h=>g2 h.2.1)]);simp(disch:=try exact ag)[eT,e1,e2,pR,sgH,eO,eOl,hpv,g1,g2];exact this _
  have hg1:=eq_true g1;have hg2:=eq_true g2;simp(disch:=try exact ag)[eT,e1,e2,pR,sgH,eO,eOl,hpv,hg1,hg2];refine cd hbo ?_;by_cases g3:bdB b=true
  rotate_left
  .have:=h2 (by rw[if_neg (fun h=>g3 h.2.2)]);have g3':¬c8 b.1 b.2.1 b.2.2=true:=g3;simp(disch:=try exact ag)[g3'];exact this _
  have g3':c8 b.1 b.2.1 b.2.2=true:=g3;rw[if_pos ⟨g1,g2,g3⟩]at h1 h2;obtain⟨z,hz,hzb⟩:=CM g3;have hrd:=qI b.2.2;rw[hz]at hrd;have hiz:aeb (z:Int)=.agg [.d (.bool false),.d (aaI z)]:=nI af af;have hrd':rdV (some (z:Int))=.tup [.agg [.d (.bool false),.d (aaI z)],B true]:=by simp[rdV,hiz]
  rw[hrd']at hrd;have hat:atI sg b x=if b.1≠2∧(decide (x.1<0)=decide (sg=1))then(z:Int)+1 else(z:Int):=by simp[atI,hz]
  have h400:(10:Nat)^400+1<=10^401:=by set_option exponentiation.threshold 1000 in rw[Nat.pow_succ];have:=Yj (a:=10) (n:=400) ae;omega
  have tail:∀zt:Nat,(zt:Int)=atI sg b x->zt<10^401->(
    bnd (ldA ((1,.vars [I sg,I bits,c2])::nnQ::(1,.data 1 (own.map di) false false)::(1,.vars [.d (.bool (decide (sum.1<0))),.d (aaI sum.1.natAbs),.d (aaI sum.2)])::(1,.vars [.d (.int .i64 b.1),.d (.int .i64 b.2.1),.d (.str b.2.2)])::(1,.vars [.d (.bool (decide (x.1<0))),.d (aaI x.1.natAbs),.d (aaI x.2)])::(1,.vars [.d (.bool false),.d (aaI zt)])::[]) 3 (.ptr 3 1 0 3)) fun v49=>
    bnd (ldA ((1,.vars [I sg,I bits,c2])::nnQ::(1,.data 1 (own.map di) false false)::(1,.vars [.d (.bool (decide (sum.1<0))),.d (aaI sum.1.natAbs),.d (aaI sum.2)])::(1,.vars [.d (.int .i64 b.1),.d (.int .i64 b.2.1),.d (.str b.2.2)])::(1,.vars [.d (.bool (decide (x.1<0))),.d (aaI x.1.natAbs),.d (aaI x.2)])::(1,.vars [.d (.bool false),.d (aaI zt)])::[]) 3 (.ptr 5 1 0 3)) fun v50=>
    bnd (ldA ((1,.vars [I sg,I bits,c2])::nnQ::(1,.data 1 (own.map di) false false)::(1,.vars [.d (.bool (decide (sum.1<0))),.d (aaI sum.1.natAbs),.d (aaI sum.2)])::(1,.vars [.d (.int .i64 b.1),.d (.int .i64 b.2.1),.d (.str b.2.2)])::(1,.vars [.d (.bool (decide (x.1<0))),.d (aaI x.1.natAbs),.d (aaI x.2)])::(1,.vars [.d (.bool false),.d (aaI zt)])::[]) 2 (.ptr 6 1 0 2)) fun v51=>
    cR 1 [.int .u32 0] [(0,(.d (.int .u32 1)))] ((1,.vars [I sg,I bits,c2])::nnQ::(1,.data 1 (own.map di) false false)::(1,.vars [.d (.bool (decide (sum.1<0))),.d (aaI sum.1.natAbs),.d (aaI sum.2)])::(1,.vars [.d (.int .i64 b.1),.d (.int .i64 b.2.1),.d (.str b.2.2)])::(1,.vars [.d (.bool (decide (x.1<0))),.d (aaI x.1.natAbs),.d (aaI x.2)])::(1,.vars [.d (.bool false),.d (aaI zt)])::[]) fun v52 h=>
    bnd (bld [(0,2),(2,1)] [.bool false,nPQ,nPQ] [(0,v51),(1,v52)]) fun v53=>
    cal (CX Y).p h (.fn F.bY [] []) [v50,v53] fun v54 h=>
    cal (CX Y).p h (.fn F.bR [] []) [v49,v54] fun v55 h=>
    stD h 3 (.ptr 3 1 0 3) v55 fun _ h=>
    bnd (biI .add (I a.length) (.d (.int .i64 1))) fun v57=>
    lpK [4,5,6] (sgH [I sg,I bits,c2] own (0,1)) (fun l' h=>lp (eT (CX Y) (lst di p) (.ptr 0 1 0 3) (qm frC l) (.ref 2 1 0 own.length own.length own.length) (.ptr 3 1 0 3) (qm pR bs) (I bs.length)) [4,5,6] (sgH [I sg,I bits,c2] own (0,1)) l' h k) k .normal [v57] h):=by
   intro zt hzt hztb;rw[<-hzt]at h1 h2
   have hfz:jF (zt:Int) 1=.agg [.d (.bool false),.d (aaI zt),.d (.sl 1 [.int .u32 1])]:=by
    simp[jF,frL];rfl
   have b1:(x.1*(zt:Int)).natAbs<10^801:=by
    rw[Y2,Int.natAbs_natCast];have:=nF hxl.1 hztb;rwa [show(400+401:Nat)=801 from rfl]at this
   have b2:x.2*1<10^401:=by set_option exponentiation.threshold 1000 in exact Zk (Nat.le_of_eq (Yc x.2)) (Z1 hxl.2 (Nat.le_of_succ_le h400))
   have t1:=xk (x:=x.1) (y:=(zt:Int)) (c:=x.2) (d:=1) (iI hxl.1 aa) (iI (z:=(zt:Int)) (by rw[Int.natAbs_natCast];exact hztb) aa) (zO hxl.2 aa) (by have:=jy (n:=1) (k:=1) ae;omega);rw[hfz]at t1;have hM:801+802*a.length<900000:=aa;have hsd:=nF hs1 b2;have hsd2:=nF b1 hs2
   have t2:=zQ (x:=sum.1) (y:=x.1*(zt:Int)) (c:=sum.2) (d:=x.2*1) (iI hs1 aa) (iI b1 aa) (iI (z:=(sum.2:Int)) (by rw[Int.natAbs_natCast];exact hs2) aa) (iI (z:=((x.2*1:Nat):Int)) (by rw[Int.natAbs_natCast];exact b2) aa)
    (iI (k:=801+802*a.length+401) (by rw[Y2,Int.natAbs_natCast];exact hsd) aa) (iI (k:=801+(801+802*a.length)) (by rw[Y2,Int.natAbs_natCast];exact hsd2) aa)
   have hfd:=zW (a:=sum) (b:=(x.1*(zt:Int),x.2*1)) hs1 hs2 b1 b2 aa;obtain⟨ns,hns⟩:∃ns,uw sum (x.1*(zt:Int),x.2*1)=ns:=⟨_,rfl⟩;rw[show uw (sum.1,sum.2) (x.1*(zt:Int),x.2*1)=ns from hns]at t2;rw[hns]at hfd h1 h2
   have ih':=ih ns (by simpa using ha) (by simpa using hoa) (by simp[hla]) (by rw[Zm,List.length_singleton,Nat.mul_add,<-Nat.add_assoc];exact hfd.1) (by rw[Zm,List.length_singleton,Nat.mul_add,<-Nat.add_assoc];exact hfd.2) h1 h2;clear ih h1 h2 hfd hs1 hs2 b1 b2 hsd hsd2;generalize hW:x.1*(zt:Int)=xz at *;generalize hD:x.2*1=xd at *
   simp(disch:=try exact ag)[gP];refine cd (args:=[.agg [.d (.bool (decide (x.1<0))),.d (aaI x.1.natAbs),.d (aaI x.2)],.agg [.d (.bool false),.d (aaI zt),.d (.sl 1 [.int .u32 1])]]) t1 ?_;simp(disch:=try exact ag)[jF,frL]
   refine cd (args:=[.agg [.d (.bool (decide (sum.1<0))),.d (aaI sum.1.natAbs),.d (aaI sum.2)],.agg [.d (.bool (decide (xz<0))),.d (aaI xz.natAbs),.d (aaI xd)]]) t2 ?_;simp(disch:=try exact ag)[jF,frL,sgH,clean,dT,hc2,mZ,jm,qk,lK,offB,vi,Hu,BE,vq,beq_lit];simpa[sgH,frL]using ih'
  simp(disch:=try exact ag)[g3',eO,eOl,f1,f2,jF,frL];refine cd hrd ?_;by_cases h2p:b.1=2
  .have:=tail z (by rw[hat,if_neg (fun h=>h.1 h2p)]) aa;have h2t:=eq_true h2p;simp(disch:=try exact ag)[gP]at this;simp(disch:=try exact ag)[h2t];refine aT ?_;simp(disch:=try exact ag)[h2t,gP];exact this
  .by_cases hsg:decide (x.1<0)=decide (sg=1)
   .have:=tail (z+1) (by rw[hat,if_pos ⟨h2p,hsg⟩];simp) aa;have hsgb:(decide (x.1<0) == decide (sg=1))=true:=by simpa using hsg
    have hnum:=jV (n:=1) aa;have hadd:=sK (a:=(z:Int)) (b:=1) (iI (z:=(z:Int)) (by rw[Int.natAbs_natCast];exact hzb) aa) (fV aa aa);rw[hiz,show(z:Int)+1=((z+1:Nat):Int) by omega,nI (z:=((z+1:Nat):Int)) (n:=z+1) (b:=false) (Int.natAbs_natCast _) bK]at hadd;generalize z+1=z1 at *
    simp(disch:=try exact ag)[gP]at this;simp(disch:=try exact ag)[h2p,hsgb];refine aT ?_;simp(disch:=try exact ag)[h2p,hsgb];refine cd hnum ?_;simp(disch:=try exact ag);refine cd hadd ?_;simp(disch:=try exact ag)[gP];exact this
   .have:=tail z (by rw[hat,if_neg (fun h=>hsg h.2)]) aa;have hsgb:(decide (x.1<0) == decide (sg=1))=false:=by simpa using hsg
    simp(disch:=try exact ag)[gP]at this;simp(disch:=try exact ag)[h2p,hsgb];refine aT ?_;simp(disch:=try exact ag)[h2p,hsgb,gP];exact this
theorem rQ:∀{s:List Tx},s.all rO=true->∃l,jK s=some l
 |[],_=>⟨[],rfl⟩
 | x::q,h=>by
  simp only[List.all_cons,Z8,rO]at h;obtain⟨f,hf⟩:=Yh.1 h.1.2;obtain⟨l,hl⟩:=rQ (s:=q) h.2;exact⟨f::l,by simp[jK,hf,hl]⟩
theorem yn(h:oH p s=true):Dn p=true∧s.length=p.length∧s.all rO=true:=by simp only[oH,Z8,decide_eq_true_eq]at h;exact⟨h.1.1,h.1.2,h.2⟩
theorem pU(h:Dn p=true):0<p.length∧p.length<=6:=by simp only[Dn,Z8,decide_eq_true_eq]at h;exact⟨h.1.2,h.2⟩
theorem wS(a:Acc)(L:Nat)(c:LdQ):bj (a.v L c)=some (I L):=by cases L<;>rfl
theorem A0{sg:Int}{bs:List Bd}(hp:p.length<1000000000)(hl:∀x∈s,x.1.length<1000000000000∧x.2.length<1000000000000):CP Y F.gF [lst di p,qm aK s,.agg [I sg,I bits,qm pR bs]] (B (zr p s sg bits bs)):=by
 refine sB ?_;unfold zr;simp(disch:=try exact ag)[gF];refine cd (AZ hp hl) ?_;by_cases hsz:oH p s=true
 rotate_left
 .rw[if_neg hsz];simp(disch:=try exact ag)[hsz]
 obtain⟨z1,z2,z3⟩:=yn hsz;obtain⟨l,hlo⟩:=rQ z3;have hll:=pu hlo;have hp6:=pU z1;have hdec:=tE hlo;have hls:=Bm (s:=s) aa;rw[hlo]at hls;rw[if_pos hsz,hlo];simp only[Option.getD_some];have hofc:offB [1] (Bk.vars [I sg,I bits,qm pR bs])=true:=rfl;simp(disch:=try exact ag)[hsz];refine cd hls ?_
 simp(disch:=try exact ag);refine lo (vd (1,.vars [I sg,I bits,qm pR bs]) hofc (l:=l) aa _ _ rfl l [] [] rfl (Z7 _) ?_);simp only[List.nil_append,List.length_nil];have hom:=tw l 0;have hol:=tz l 0;generalize kr 0 l=own at *;have hlv:=wS snA own.length (own.map di);unfold xK;by_cases g0:sg=0
 .subst g0;rw[if_pos rfl];by_cases k1:own.length=0
  .have hk1:=eq_true k1;by_cases k2:bits=0
   .have hk2:=eq_true k2;simp(disch:=try exact ag)[snH,hlv,hk1,hk2]
   .simp(disch:=try exact ag)[snH,hlv,hk1,k2]
  .simp(disch:=try exact ag)[snH,hlv,k1]
 .rw[if_neg g0];have gc:(sg=1∨sg = -1)∨(sg≠1∧sg≠-1):=aa;rcases gc with gc|⟨gc1,gc2⟩
  rotate_left
  .rw[if_pos (.inl ⟨gc1,gc2⟩)];simp(disch:=try exact ag)[snH,g0,gc1,gc2]
  by_cases k1:own.length=0
  .rw[if_pos (.inr (.inl k1))];have hk1:=eq_true k1;rcases gc with rfl|rfl
   .simp(disch:=try exact ag)[snH,hlv,hk1]
   .simp(disch:=try exact ag)[snH,hlv,hk1]
  by_cases k2:bs.length=own.length
  rotate_left
  .rw[if_pos (.inr (.inr k2))];rcases gc with rfl|rfl
   .simp(disch:=try exact ag)[snH,hlv,k1,k2]
   .simp(disch:=try exact ag)[snH,hlv,k1,k2]
  rw[if_neg aa];have hk2:=eq_true k2;obtain⟨n,hn⟩:∃n,own.length=n+1:=⟨own.length-1,aa⟩
  have hV:snA.v own.length (own.map di)=.ref 2 1 0 own.length own.length own.length:=by
   have:(own.map di).length=n+1:=by simp[hn]
   rw[hn]
   show V.ref 2 1 0 (n+1) (n+1) (own.map di).length=_
   rw[this]
  have hB:snA.b own.length (own.map di)=(1,.data 1 (own.map di) false false):=by
   rw[hn];rfl
  have hx:sg=1∨sg = -1:=gc;have hpown:∀o∈own,0<=o∧o<l.length:=fun o ho=>by have:=hom o ho;omega
  have loop:=fun k=>tb (p:=p) (l:=l) (sg:=sg) (bits:=bits) (bs:=bs) (own:=own) aa k2 hpown aa aa hdec k (qm pR bs) rfl _ rfl bs [] own [] (0,1) rfl rfl rfl (Yj ae) (by
   set_option exponentiation.threshold 1000 in
   have:(10:Nat)^1<=10^(801+802*0):=Z4 ae ae;exact Z1 ae this)
  have fin:∀r:Int×Nat,oo p l sg bits own bs (0,1)=some r->exK [((.exit 2),fun l47 h=>
      bnd (ldA h 3 (.ptr 3 1 0 3)) fun v48=>
      cal (CX Y).p h (.fn F.bA [] []) [v48] fun v49 h=>
      gd v49 false h (fun q=>bnd (faV 0 (.ptr 3 1 0 3)) fun v=>q v h) fun v50 h=>
      gd v49 false h (fun q=>bnd (faV 0 v50) fun v=>q v h) fun v51 h=>
      gd v49 false h (fun q=>bnd (ld1 h v51) fun v=>q v h) fun v52 h=>
      gd v49 false h (fun q=>bnd (faV 0 (.ptr 0 1 0 3)) fun v=>q v h) fun v53 h=>
      gd v49 false h (fun q=>bnd (ld1 h v53) fun v=>q v h) fun v54 h=>
      gd v49 false h (fun q=>bnd (biI .lss v54 (.d (.int .i64 0))) fun v=>q v h) fun v55 h=>
      gd v49 false h (fun q=>bnd (biB .eql v52 v55) fun v=>q v h) fun v56 h=>
      bnd (qM v49 (.d (.bool true)) v56) fun v57=>
      out (B (decide (r.1=0)||(decide (r.1<0) == decide (sg<0)))) v57 h),
      (.ret,fun l47 h=>out (B (decide (r.1=0)||(decide (r.1<0) == decide (sg<0)))) (ge l47 0) h)] (.exit 2) [] (sgH [I sg,I bits,qm pR bs] own r):=by
   intro r hr;simp(disch:=try exact ag)[sgH,frL];refine cd (args:=[.agg [.d (.bool (decide (r.1<0))),.d (aaI r.1.natAbs),.d (aaI r.2)]]) (xu r.1 r.2) ?_;by_cases hz:r.1=0
   .simp(disch:=try exact ag)[hz]
   .simp(disch:=try exact ag)[hz]
  cases hr:oo p l sg bits own bs (0,1)with
  | none=>
   rcases gc with rfl|rfl
   .simp(disch:=try exact ag)[snH,hlv,k1,hk2];refine cd l8 ?_;simp(disch:=try exact ag)[jF,frL,hV,hB];refine lo (loop _ (fun r hr2=>by rw[hr]at hr2;cases hr2) (fun _ h=>?_));simp(disch:=try exact ag)
   .simp(disch:=try exact ag)[snH,hlv,k1,hk2];refine cd l8 ?_;simp(disch:=try exact ag)[jF,frL,hV,hB];refine lo (loop _ (fun r hr2=>by rw[hr]at hr2;cases hr2) (fun _ h=>?_));simp(disch:=try exact ag)
  | some r=>
   have:=fin r hr;rcases gc with rfl|rfl
   .simp(disch:=try exact ag)[snH,hlv,k1,hk2];refine cd l8 ?_;simp(disch:=try exact ag)[jF,frL,hV,hB];refine lo (loop _ (fun r' hr2=>?_) (fun hr2=>by rw[hr]at hr2;cases hr2));rw[hr]at hr2;injection hr2 with hr2;subst hr2;exact this
   .simp(disch:=try exact ag)[snH,hlv,k1,hk2];refine cd l8 ?_;simp(disch:=try exact ag)[jF,frL,hV,hB];refine lo (loop _ (fun r' hr2=>?_) (fun hr2=>by rw[hr]at hr2;cases hr2));rw[hr]at hr2;injection hr2 with hr2;subst hr2;exact this
theorem wN{h:Hp}(hu:(h.all fun x=>bW h.length x.2)=true){l:LiQ}(hl:0<l.length)(hb:l.length<1000000000000):CI Y F.cD [lst di l] h (.new 1 (l.map di) false l.length l.length) h:=by
 refine lY ?_;simp(disch:=try exact ag)[cD]
 have hli:cO 0 [D.int IntKind.i64 0] [] (h++[(0,Bk.none),(0,Bk.none)])=some ([],h++[(0,Bk.none),(0,Bk.none)]):=by
  simp[cO,jv,iH]
 rw[hli];simp(disch:=try exact ag);refine x8 (z:=[]) ae hl af aa ?_;simp(disch:=try exact ag);refine⟨af,?_,.inr (.inr (.inl ⟨h.length+1,1,l.length,l.length,1,l.map di,false,af,aa,by simp[aw],rfl⟩))⟩;simp only[Yp,hu,Zg]
 try simp[bW]
theorem BI{a b d e f:Nat×Bk}{l:LiQ}{i j:Nat}(hj:j=i+1)(hi:i<l.length)(hb:l.length<1000000){q:kkQ}{u:PU q}
  (hq:q (.ref 2 1 0 (l.length-1) l.length l.length) [a,b,(1,.data 1 ((l.take i++l.drop j++l.drop (l.length-1)).map di) false false),d,e,f]) :
  rh (apV false 5 1 8 (.ref 2 1 0 i l.length l.length) (.ref 2 1 j (l.length-j) (l.length-j) l.length) [a,b,(1,.data 1 (l.map di) false false),d,e,f]) q u:=by
 unfold rh apV;have hg:∀x,aw [a,b,(1,x),d,e,f] 2 1=x:=fun x=>rfl
 simp only[cellsOf,hg,Yz,Yc];rw[if_pos ⟨trivial,aa⟩];simp only[];have htl:(((l.map di).drop j).take (l.length-j)).length=l.length-j:=af;rw[if_pos htl];unfold apC;by_cases h0:l.length-j=0
 .rw[if_pos h0];simp only[];rw[if_pos aa]
  have e1:l.take i++l.drop j++l.drop (l.length-1)=l:=by
   rw[Zb aa,Y8,show l.length-1=i by omega,Yi]
  rw[e1,show l.length-1=i by omega]at hq;exact hq
 .rw[if_neg h0];simp only[hg,Yz,Yc];rw[if_pos ⟨trivial,trivial,aa,aa,htl⟩,if_pos aa];simp only[V7,Ze,if_false,Zp]
  have e1:List.take i (l.map di)++((l.map di).drop j).take (l.length-j)++List.drop (i+(l.length-j)) (l.map di)=(l.take i++l.drop j++l.drop (l.length-1)).map di:=by
   rw[Z6 (l:=(l.map di).drop j) af,show i+(l.length-j)=l.length-1 by omega];simp
  rw[e1,show i+(l.length-j)=l.length-1 by omega];exact hq
theorem CK{a b d e:Nat×Bk}{l:LiQ}(hn:n=l.length)(hi:i<n)(hb:n<1000000)(hu:(bW 5 a.2&&bW 5 b.2&&bW 5 d.2&&bW 5 e.2)=true):
  CI Y F.ci [.ref 2 1 0 n n n,I i,I (i+1:Nat)] [a,b,(1,.data 1 (l.map di) false false),d,e] (.ref 2 1 0 (n-1) n n) [a,b,(1,.data 1 ((l.eraseIdx i++[0]).map di) false false),d,e]:=by
 subst hn;refine lF ?_;have h1:¬(i:Int)=((i+1:Nat):Int):=aa;obtain⟨j,hj⟩:=nmQ (i+1);rw[<-hj]at h1 ⊢
 have hsx:slX [a,b,(1,.data 1 (l.map di) false false),d,e,nnQ] 1 (.ref 2 1 0 l.length l.length l.length) (some (I i)) (some (I j)) (I l.length)=some (.ref 2 1 i (j-i) (l.length-i) l.length):=by
  simp[slX,aw,boV,show j<=l.length by omega,show i<=j by omega]
 have hs1:slV [a,b,(1,.data 1 (l.map di) false false),d,e,nnQ] 1 (.ref 2 1 0 l.length l.length l.length) none (some (I i))=some (.ref 2 1 0 i l.length l.length):=by
  simp[slV,aw,boV,show i<=l.length by omega]
 have hs2:slV [a,b,(1,.data 1 (l.map di) false false),d,e,nnQ] 1 (.ref 2 1 0 l.length l.length l.length) (some (I j)) none=some (.ref 2 1 j (l.length-j) (l.length-j) l.length):=by
  simp[slV,aw,boV,show j<=l.length by omega]
 simp(disch:=try exact ag)[ci,hsx,hs1,hs2,h1];refine BI hj hi hb ?_;have hxl:(l.take i++l.drop j++l.drop (l.length-1)).length=l.length:=by simp;omega
 have hs3:slV [a,b,(1,.data 1 ((l.take i++l.drop j++l.drop (l.length-1)).map di) false false),d,e,nnQ] 1 (.ref 2 1 0 (l.length-1) l.length l.length) (some (I (l.length-1:Nat))) (some (I l.length))=some (.ref 2 1 (l.length-1) 1 (l.length-(l.length-1)) l.length):=by
  simp only[slV,aw,List.getElem?_cons_succ,List.getElem?_cons_zero,if_true,boV,Yz,hxl];rw[if_pos ⟨aa,aa⟩];simp only[Int.toNat_natCast];rw[if_pos ⟨aa,aa⟩];simp only[Int.toNat_natCast];rw[if_pos ⟨trivial,aa,trivial⟩];congr 2<;>omega
 have herase:(l.take i++l.drop j++l.drop (l.length-1)).take (l.length-1)=l.eraseIdx i:=by
  rw[Xy bK,List.eraseIdx_eq_take_drop_succ,hj]
 obtain⟨E,hE⟩:=nmQ (l.eraseIdx i++[0]);rw[<-hE]
 have hclr:∀q:kkQ,q (.tup []) [a,b,(1,.data 1 (E.map di) false false),d,e,nnQ]->aeB [a,b,(1,.data 1 ((l.take i++l.drop j++l.drop (l.length-1)).map di) false false),d,e,nnQ] [D.int .i64 0] (.ref 2 1 (l.length-1) 1 (l.length-(l.length-1)) l.length) q:=by
  intro q hq;generalize l.take i++l.drop j++l.drop (l.length-1)=X at *
  have e1:List.take (l.length-1) (X.map di)++[D.int .i64 0]++List.drop (l.length-1+1) (X.map di)=E.map di:=by
   rw[<-List.map_take,herase,Zb bK,hE];simp[di]
  simp only[aeB,aw,List.getElem?_cons_succ,List.getElem?_cons_zero,if_true,List.length_singleton,Yz,hxl,jv,Y8];rw[if_pos ⟨aa,trivial,aa,trivial,trivial,aa⟩,e1];exact hq
 generalize l.take i++l.drop j++l.drop (l.length-1)=X at *;simp(disch:=try exact ag)[hs3];refine hclr _ ?_;refine⟨rfl,?_,.inl ⟨rfl,by simp[under]⟩⟩;simp only[Z8]at hu;obtain⟨⟨⟨u1,u2⟩,u3⟩,u4⟩:=hu;simp only[List.all_cons,List.all_nil,u1,u2,u3,u4,Zg];rfl
def jN(r:LiQ)(f:LiQ->Int)(cols:LiQ):Nat->Nat->Int
 |0,_=>0
 |k+1,i=>(if i%2=1 then -(nth 0 r (nth 0 cols i).toNat*f (cols.eraseIdx i))else nth 0 r (nth 0 cols i).toNat*f (cols.eraseIdx i))+jN r f cols k (i+1)
def ml:LLQ->LiQ->Int
 |[],_=>1
 |r::m,cols=>jN r (ml m) cols cols.length 0
theorem rr{r:LiQ}(hr:dN r=true){c:Nat}(hc:c<r.length){x:Int}{K:Nat}(hx:x.natAbs<=K)(b:Bool):(if b=true then -(nth 0 r c*x)else nth 0 r c*x).natAbs<=1000000000*K:=by
 have hm:tO (nth 0 r c)=true:=by
  simp only[dN,Zv]at hr;exact hr _ (aQ hc)
 rw[BD]at hm;have h1:=Zn (show(nth 0 r c).natAbs<=1000000000 by omega) hx;rw[<-Y2]at h1;cases b
 .simpa using h1
 .simpa using h1
theorem rX(h:∀c∈cols,0<=c∧c<(n:Int))(i:Nat):∀c∈cols.eraseIdx i,0<=c∧c<(n:Int):=fun c hc=>h c (List.mem_of_mem_eraseIdx hc)
theorem om{r:LiQ}(hr:dN r=true){f:LiQ->Int}{cols:LiQ}(hc:∀c∈cols,0<=c∧c<(r.length:Int)){K:Nat}(hf:∀i,i<cols.length->(f (cols.eraseIdx i)).natAbs<=K):∀(k i:Nat),i+k=cols.length->(jN r f cols k i).natAbs<=k*(1000000000*K)
 |0,i,h=>by simp[jN]
 | k+1,i,h=>by
  have ih:=om hr hc hf k (i+1) aa;have hci:=hc (nth 0 cols i) (aQ aa);have ht:=rr hr (c:=(nth 0 cols i).toNat) aa (hf i aa) (decide (i%2=1));simp only[decide_eq_true_eq]at ht;simp only[jN];rw[X5];omega
theorem oB:∀(m:LLQ)(cols:LiQ)(n:Nat),(∀r∈m,dN r=true∧r.length=n)->(∀c∈cols,0<=c∧c<(n:Int))->cols.length<=12->(ml m cols).natAbs<=100000000000^m.length
 |[],cols,n,_,_,_=>by simp[ml]
 | r::m,cols,n,hm,hc,hl=>by
  have hr:=hm r af;have h:=om (f:=ml m) (K:=100000000000^m.length) hr.1 (by rw[hr.2];exact hc) (fun i hi=>oB m _ n (fun q hq=>hm q (by simp[hq])) (rX hc i) (by rw[Wn];split<;>omega)) cols.length 0 aa;simp only[ml];refine Zu h ?_;rw[List.length_cons,Nat.pow_succ,<-Nat.mul_assoc,Zt (100000000000^m.length)]
  exact Zz _ aa
abbrev z0:Nat×Bk:=(1,.vars [.d (.bool false),.d nPQ])
def dtH(s:Int)(xv:V):Hp:=[z0,(1,.vars [.d (.bool (decide (s<0))),xv]),nnQ,nnQ,nnQ]
theorem yM(h:isN v n)(b:Nat):under b v=true:=by rcases h with rfl|⟨_,rfl⟩<;>rfl
theorem uk(h:isN v n)(clr:LnQ):kH clr v=true:=by rcases h with rfl|⟨_,rfl⟩<;>rfl
theorem Bo(n:Nat):isN (.d (aaI n)) n:=.inl rfl
theorem wB{r:LiQ}{m:LLQ}{cols:LiQ}(hr:dN r=true)(hc:∀c∈cols,0<=c∧c<(r.length:Int))(hl:cols.length<=12)(hml:m.length<=12)
  (hrec:∀i,i<cols.length->CP Y F.bL [mat m,lst di (cols.eraseIdx i)] (aeb (ml m (cols.eraseIdx i)))) (hb:∀i,i<cols.length->(ml m (cols.eraseIdx i)).natAbs<=100000000000^m.length)
  (k:KL) (h0:Hp) (hh:h0=[z0,(1,.vars [.d (.bool false),.d nPQ]),nnQ,nnQ,nnQ]) :
  ∀(n i:Nat)(s:Int)(xv:V),i+n=cols.length->isN xv s.natAbs->s.natAbs<=i*(1000000000*100000000000^m.length) ->
  (∀xv',isN xv' (s+jN r (ml m) cols n i).natAbs->k (.exit 0) [] (dtH (s+jN r (ml m) cols n i) xv')) ->
  lp (cX (CX Y) (mat (r::m)) (lst di cols) (.ptr 1 1 0 2) (lst di cols) (I cols.length)) [2,3,4] h0 [I i] (dtH s xv) k
 | 0,i,s,xv,hi,hx,hs,hk=>by
  refine aj ?_;simp(disch:=try exact ag)[cX];have:=hk xv (by simpa[jN]using hx);simpa[jN]using this
 | n+1,i,s,xv,hi,hx,hs,hk=>by
  have hic:i<cols.length:=aa;have hci:=hc (nth 0 cols i) (aQ hic);have ih:=wB hr hc hl hml hrec hb k h0 hh n (i+1);simp only[jN,<-Int.add_assoc]at hk;obtain⟨c,hcc⟩:∃c:Nat,nth 0 cols i=c:=⟨(nth 0 cols i).toNat,aa⟩;rw[hcc]at hci;rw[hcc,Int.toNat_natCast]at hk
  have eI:∀h:Hp,ixV h 1 (lst di cols) (.d (.int .i64 (i:Int)))=some (.dptr (cols.map di) i):=fun h=>aJ di _ h rfl hic
  have eL:∀h:Hp,ld1 h (.dptr (cols.map di) i)=some (.d (di (c:Int))):=fun h=>by rw[ad6 cols h hic,hcc]
  have e0:nth [] (r::m) 0=r:=rfl;have hK:=hb i hic;have ht0:=rr hr (c:=c) aa hK;have ht:=ht0 (decide (i%2=1));simp only[decide_eq_true_eq]at ht;obtain⟨e,he⟩:=mnQ (nth 0 r c);obtain⟨d,hd⟩:=mnQ (ml m (cols.eraseIdx i));rw[he,hd]at hk ht ht0;rw[hd]at hK;obtain⟨t,htt⟩:∃t,(if i%2=1 then -(e*d)else e*d)=t:=⟨_,rfl⟩;rw[htt]at hk ht
  have hnext:(s+t).natAbs<=(i+1)*(1000000000*100000000000^m.length):=by
   rw[X5];omega
  have ih':=fun xv' hx'=>ih (s+t) xv' aa hx' hnext hk
  refine aj ?_;subst hh;by_cases he0:e=0
  .have ht0':t=0:=by rw[<-htt,he0];simp
   rw[ht0',Int.add_zero]at ih';have:=ih' xv hx;simp(disch:=try exact ag)[cX];refine aT ?_;have hxo:=uk hx [2,3,4];simp(disch:=try exact ag)[eI,eL,e0,he,he0,dtH,clean,dT,hxo,mZ,jm,qk,lK,offB,vi,Hu,BE,vq,beq_lit];simpa[dtH]using this
  .have hxo:=uk hx [2,3,4];have hxu:=yM hx 5;have hcl:0<cols.length:=aa
   have hfe:∀z:Int,z.natAbs<=12*(1000000000*100000000000^m.length)->fits z:=fun z hz=>by
    refine iI (k:=200) (Zk hz ?_) aa;have h1:(100000000000:Nat)^m.length<=100000000000^12:=Z4 ae hml;have h2:12*(1000000000*100000000000^12)<10^200:=ae;have h3:12*(1000000000*100000000000^m.length)<=12*(1000000000*100000000000^12):=Zw _ (Zw _ h1);omega
   have hile:i*(1000000000*100000000000^m.length)<=12*(1000000000*100000000000^m.length):=Zz _ aa;have hile2:1000000000*100000000000^m.length<=12*(1000000000*100000000000^m.length):=aa;have hde:=BD.1 (by simp only[dN,Zv]at hr;rw[<-he];exact hr _ (aQ aa):tO e=true);have hnum:=jV (n:=e) aa
   have hdet:=hrec i hic;rw[hd]at hdet;have htim:=mF (a:=e) (b:=d) (fV aa aa) (hfe d aa);have hadd:=sK (a:=s) (b:=t) (hfe s aa) (hfe t aa);have hclone:=wN (h:=dtH s xv) (by simp[dtH,bW,mI,hxu,under]) (l:=cols) hcl aa
   have hdel:=fun(b3 b4:Nat×Bk)(h3:bW 5 b3.2=true)(h4:bW 5 b4.2=true)=>CK (a:=z0) (b:=(1,.vars [.d (.bool (decide (s<0))),xv])) (d:=b3) (e:=b4) (l:=cols) (i:=i) (n:=cols.length) rfl hic aa (by rw[h3,h4];simp[bW,mI,hxu,under])
   have hsl:∀h:Hp,slV h 1 (mat (r::m)) (some (.d (.int .i64 1))) none=some (mat m):=fun h=>by
    have:=aiF row (r::m) h (i:=1) aa bK af;simpa using this
   simp(disch:=try exact ag)[cX];refine aT ?_;simp(disch:=try exact ag)[eI,eL,e0,he,he0];refine cd hnum ?_;simp(disch:=try exact ag)[hsl];refine jC (fe (s:=2) (e:=0) (b:=.none) hclone rfl ?_);obtain⟨j,hj⟩:=nmQ (i+1);have hji:((i:Int)+1)=(j:Int):=aa;simp only[<-hj]at hdel
   have hel:(cols.eraseIdx i).length=cols.length-1:=by rw[Wn,if_pos hic]
   obtain⟨E,hE⟩:=mnQ ((cols.eraseIdx i++[0]).map di);have hE1:E.length=cols.length:=by rw[<-hE];simp[hel];omega
   have hE2:E.take (cols.length-1)=(cols.eraseIdx i).map di:=by rw[<-hE,Xx,Xy (by simp[hel])]
   simp only[hE]at hdel;simp(disch:=try exact ag)[hji,dtH];refine jC (pT (hdel nnQ nnQ rfl rfl) ?_ af);simp(disch:=try exact ag);refine cdz (ds:=[mat m,lst di (cols.eraseIdx i)]) (h':=[z0,(1,.vars [.d (.bool (decide (s<0))),xv]),(1,.data 1 E false true),nnQ,nnQ]) ?_ hdet ?_
   .simp[aS,bJ,toD,aw,lst,hel,hE1,hE2]
   .have hpl:fN (aeb d)=false:=rfl;have htn:=yl (e*d);have hxs:=j0 hx;rw[hpl];simp(disch:=try exact ag);refine cd htim ?_;have hrem:((i:Int).tmod 2=1)↔i%2=1:=by rw[Zx aa];omega
    have tail:bnd (ldA ([z0,(1,.vars [.d (.bool (decide (s<0))),xv]),(1,.data 1 E false true),nnQ,(1,.vars (af4 t))]) 2 (.ptr 1 1 0 2)) fun v29=>
      bnd (ldA ([z0,(1,.vars [.d (.bool (decide (s<0))),xv]),(1,.data 1 E false true),nnQ,(1,.vars (af4 t))]) 2 (.ptr 4 1 0 2)) fun v30=>
      cal (CX Y).p ([z0,(1,.vars [.d (.bool (decide (s<0))),xv]),(1,.data 1 E false true),nnQ,(1,.vars (af4 t))]) (.fn F.ba [] []) [v29,v30] fun v31 h=>
      stD h 2 (.ptr 1 1 0 2) v31 fun _ h=>
      bnd (biI .add (I i) (.d (.int .i64 1))) fun v4=>
      lpK [2,3,4] [z0,z0,nnQ,nnQ,nnQ] (fun l h=>lp (cX (CX Y) (mat (r::m)) (lst di cols) (.ptr 1 1 0 2) (lst di cols) (I cols.length)) [2,3,4] [z0,z0,nnQ,nnQ,nnQ] l h k) k .normal [v4] h:=by
     have:=ih' (.d (aaI (s+t).natAbs)) (Bo _);generalize hst:s+t=st at *;simp(disch:=try exact ag)[af4];refine cdx (ds:=[aeb s,aeb t]) (by simp[aS,bJ,hxs,aeb,af4,c9]) hadd ?_;simp(disch:=try exact ag)[aeb,af4,hji,clean,dT,mZ,jm,qk,lK,offB,vi,Hu,BE,vq,beq_lit]
     simpa[dtH,<-hji]using this
    by_cases hodd:i%2=1
    .have hr1:=eq_true (hrem.2 hodd);rw[if_pos hodd]at htt;rw[htt]at htn;simp(disch:=try exact ag)[aeb,af4,hr1];refine aT ?_;simp(disch:=try exact ag)[hr1];refine cd (args:=[.agg (af4 (e*d))]) htn ?_ (by simp[aS,bJ,af4]);simp(disch:=try exact ag)[aeb,af4];simp(disch:=try exact ag)[af4]at tail;exact tail
    .have hr1:¬(i:Int).tmod 2=1:=fun h=>hodd (hrem.1 h)
     rw[if_neg hodd]at htt;rw[htt]at *;simp(disch:=try exact ag)[aeb,af4,hr1];refine aT ?_;simp(disch:=try exact ag)[hr1,af4];simp(disch:=try exact ag)[af4]at tail;exact tail
theorem Ae:∀(m:LLQ)(cols:LiQ)(n:Nat),(∀r∈m,dN r=true∧r.length=n)->(∀c∈cols,0<=c∧c<(n:Int))->cols.length<=12->m.length<=12->CP Y F.bL [mat m,lst di cols] (aeb (ml m cols))
 | [],cols,n,hm,hc,hl,hml=>by
  refine jS ?_;simp(disch:=try exact ag)[bL];refine cd (jV (n:=1) aa) ?_;simp(disch:=try exact ag)[aeb,af4];exact ju (by simp[bJ,aS,ml,aeb,af4])
 | r::m,cols,n,hm,hc,hl,hml=>by
  have hr:=hm r af;simp at hml;refine jS ?_;simp(disch:=try exact ag)[bL]
  refine lo (wB hr.1 (by rw[hr.2];exact hc) hl aa (fun i hi=>Ae m _ n (fun q hq=>hm q (by simp[hq])) (rX hc i) (by rw[Wn];split<;>omega) aa)
   (fun i hi=>oB m _ n (fun q hq=>hm q (by simp[hq])) (rX hc i) (by rw[Wn];split<;>omega)) _ _ rfl cols.length 0 0 (.d nPQ) aa (.inr ⟨rfl,rfl⟩) af fun xv' hx=>?_)
  have hok:=xj hx;simp only[Ye]at hx ⊢;have e:jN r (ml m) cols cols.length 0=ml (r::m) cols:=rfl;rw[e]at hx ⊢;generalize ml (r::m) cols=d at *;simp(disch:=try exact ag)[dtH,hok];refine ju ?_;simp[bJ,aS,j0 hx,aeb,af4,c9]
def gK(set:Nat):Nat->Nat->LiQ
 |0,_=>[]
 |k+1,c=>if set/2^c%2=1 then(c:Int)::gK set k (c+1)else gK set k (c+1)
theorem oC(set:Nat):∀(k c:Nat),∀x∈gK set k c,(c:Int)<=x∧x<((c+k:Nat):Int)
 |0,c,x,h=>by simp[gK]at h
 | k+1,c,x,h=>by
  have ih:=oC set k (c+1) x;simp only[gK]at h;split at h
  .rcases Zo.1 h with rfl|h
   .omega
   .have:=ih h;omega
  .have:=ih h;omega
theorem oD(set:Nat):∀(k c:Nat),(gK set k c).length<=k
 |0,c=>by simp[gK]
 | k+1,c=>by
  have ih:=oD set k (c+1);simp only[gK];split
  .simp;omega
  .omega
def ow(m:LLQ)(n:Nat):Nat->Nat->Nat->Nat
 |0,_,g=>g
 |k+1,set,g=>ow m n k (set+1) (if(gK set n 0).length=m.length then Nat.gcd g (ml m (gK set n 0)).natAbs else g)
def vL(m:LLQ)(n:Nat):Bool:=decide (ow m n (2^n) 0 0=1)
theorem Az{a:Nat}(h:a<9223372036854775808):biI .and (.d (.int .i64 a)) (.d (.int .i64 1))=some (.d (.int .i64 ((a%2:Nat):Int))):=by
 have ea:(BitVec.ofInt 64 (a:Int)).toNat=a:=by simp[BitVec.toNat_ofInt];omega
 have eb:(BitVec.ofInt 64 (1:Int)).toNat=1:=ae;have e:(BitVec.ofInt 64 (a:Int)&&&BitVec.ofInt 64 1).toNat=a%2:=by rw[BitVec.toNat_and,ea,eb,Nat.and_one_is_mod]
 show mr (some (Value.int .i64 (IntKind.wrap .i64 ((BitVec.ofInt 64 (a:Int)&&&BitVec.ofInt 64 1).toNat:Int))))=_
 rw[e,uo aa aa];rfl
def flA:Acc:=⟨0,0,1,.none⟩
theorem yb{set n:Nat}(hs:set<100000)(hn:n<=12)(k:KL)(h0:Hp)(hh:h0.length=1):∀(r c:Nat)(d:LiQ),c+r=n->d.length<=c ->
  k (.exit 2) [flA.v (d++gK set r c).length ((d++gK set r c).map di)] [flA.b (d++gK set r c).length ((d++gK set r c).map di)] ->
  lp (gH (CX Y) (I set) (I n)) [] h0 [flA.v d.length (d.map di),I c] [flA.b d.length (d.map di)] k
 | 0,c,d,hc,hd,hk=>by
  refine aj ?_;simp(disch:=try exact ag)[gH];simpa[gK]using hk
 | r+1,c,d,hc,hd,hk=>by
  have ih:=yb hs hn k h0 hh r (c+1);have hsh:(set:Int)/2^c=((set/2^c:Nat):Int):=af;have hlt:set/2^c<9223372036854775808:=Zk (Yu _ _) aa;have ha:=Az hlt;simp only[gK]at hk;obtain⟨x,hx⟩:=mnQ (set/2^c);rw[hx]at ha hsh hk;refine aj ?_;by_cases h1:x%2=1
  .rw[if_pos h1]at hk;have h1':((x:Int)%2=1)=True:=eq_true aa
   have hli:∀H:Hp,cO 1 [D.int IntKind.i64 0] [(0,I (c:Int))] H=some ([di c],H):=fun H=>by
    simp[cO,jv,iH,toD,di]
   have:=ih (d++[(c:Int)]) aa bK (by simpa using hk);simp(disch:=try exact ag)[gH];refine aT ?_;simp(disch:=try exact ag)[hsh,ha,h1'];refine aT ?_;simp(disch:=try exact ag)[h1',hli];refine hO flA (k:=1) (cs:=[di c]) aa (by rfl) (by simp[flA]) rfl rfl af aa (by simp[flA]) ?_
   simp(disch:=try exact ag)[show flA.s=0 from rfl,hh];simpa[flA,Acc.v,Acc.b]using this
  .rw[if_neg h1]at hk;have h1':((x:Int)%2=1)=False:=eq_false aa;have:=ih d aa aa hk;simp(disch:=try exact ag)[gH];refine aT ?_;simp(disch:=try exact ag)[hsh,ha,h1'];refine aT ?_;simp(disch:=try exact ag)[h1',hh];simpa using this
theorem wF(hm:∀r∈m,dN r=true∧r.length=n)(hc:∀c∈cols,0<=c∧c<(n:Int))(hl:cols.length<=12)(hml:m.length<=12):len (ml m cols).natAbs<=132:=by have h:=oB m cols n hm hc hl;have h1:(100000000000:Nat)^m.length<=100000000000^12:=Z4 ae hml;have h2:(100000000000:Nat)^12<10^133:=ae;have h3:(100000000000:Nat)^12<W^132:=ae;exact jy aa
theorem tG{m:LLQ}{n:Nat}(hm:∀r∈m,dN r=true∧r.length=n)(hn:n<=12)(hml:m.length<=12)(k:KL)(N:Nat)(hN:N<100000):∀(r set g:Nat)(gv:V),set+r=N->isN gv g->len g<=132 ->
  (∀gv',isN gv' (ow m n r set g)->k (.exit 0) [gv'] [nnQ]) ->
  lp (je (CX Y) (mat m) (I n) (I N)) [0] [nnQ] [gv,I set] [nnQ] k
 | 0,set,g,gv,hs,hg,hgl,hk=>by
  refine aj ?_;simp(disch:=try exact ag)[je];exact hk gv hg
 | r+1,set,g,gv,hs,hg,hgl,hk=>by
  have ih:=tG hm hn hml k N hN r (set+1);have hcm:=oC set n 0;have hcl:=oD set n 0;simp only[ow]at hk;refine aj ?_;simp(disch:=try exact ag)[je];refine aT ?_;simp(disch:=try exact ag);refine lo (yb (n:=n) aa hn _ _ rfl n 0 [] aa (Z7 _) ?_);simp only[List.nil_append]
  generalize gK set n 0=cols at *;have hlv:=wS flA cols.length (cols.map di);have hc:∀c∈cols,0<=c∧c<(n:Int):=fun c h=>by have:=hcm c h;omega
  have hoS:∀L c,kH [0] (flA.v L c)=true∨True:=fun _ _=>.inr trivial
  have hgo:=uk hg [0];by_cases h:cols.length=m.length
  .have h':=eq_true h;rw[if_pos h]at hk;have hd:=Ae m cols n hm hc aa hml;have hdl:=wF hm hc aa hml;obtain⟨d,hdd⟩:=mnQ (ml m cols);rw[hdd]at hd hdl hk;have hco:=tL (a:=g) (b:=d.natAbs) aa aa
   have hgc:len (Nat.gcd g d.natAbs)<=132:=by
    rcases Zd g with e|e
    .subst e;rw[Nat.gcd_zero_left];exact hdl
    .exact Zu (jL (Nat.gcd_le_left _ e)) hgl
   have:=ih _ (nat (Nat.gcd g d.natAbs)) aa (.inl rfl) hgc hk;obtain⟨h1,e1,e2⟩:=uR flA (L:=cols.length) (cells:=cols.map di) (h:=[flA.b cols.length (cols.map di)]) rfl (by simp[flA])
   have hoff:clean [0] [nat (Nat.gcd g d.natAbs),I (set+1:Nat)] h1=true∧au [0] 0 [nnQ] h1=[nnQ]:=by
    rcases e2 with⟨_,rfl⟩|⟨_,rfl⟩
    .have:kH [0] (nat (Nat.gcd g d.natAbs))=true:=rfl;simp[clean,dT,mZ,this,jm,qk,vq,beq_lit,vi,au]
    .have:kH [0] (nat (Nat.gcd g d.natAbs))=true:=rfl;simp[clean,dT,mZ,this,jm,qk,vq,beq_lit,vi,au,show flA.s=0 from rfl]
   simp(disch:=try exact ag)[hlv,h'];refine aT ?_;simp(disch:=try exact ag)[h'];refine cdz (ds:=[mat m,lst di cols]) (h':=h1) ?_ hd ?_
   .have e3:bJ [flA.b cols.length (cols.map di)] (flA.v cols.length (cols.map di))=some (lst di cols,h1):=e1;rw[h]at e3;simp[aS,mat,e3,h]
   .rw[show fN (aeb d)=false from rfl];simp(disch:=try exact ag)[aeb,af4];refine cdx (ds:=[nat g,nat d.natAbs]) (by simp[aS,bJ,j0 hg,c9]) hco ?_;simp(disch:=try exact ag);rw[show(set:Int)+1=((set+1:Nat):Int) by omega,hoff.2];exact⟨hoff.1,this⟩
  .rw[if_neg h]at hk;have:=ih g gv aa hg hgl hk;simp(disch:=try exact ag)[hlv,h];refine aT ?_;simp(disch:=try exact ag)[h,clean,dT,hgo,mZ,jm,qk,vq,BE,beq_lit,vi,Hu];simpa using this
theorem xW(hm:∀r∈m,dN r=true∧r.length=n)(hn:n<=12)(hml:m.length<=12):CP Y F.iv [mat m,I n] (B (vL m n)):=by
 refine su ?_;obtain⟨N,hN⟩:=mnQ (2^n);have hNl:N<=2^12:=by rw[<-hN];exact Z4 ae hn
 have hNi:(2:Int)^n=(N:Int):=by rw[<-hN];simp
 have hb:∀(k s g:Nat),len g<=132->len (ow m n k s g)<=132:=by
  intro k
  induction k with
  |zero=>intro s g h;exact h
  | succ k ih=>
   intro s g h;simp only[ow];refine ih _ _ ?_;split
   .rename_i hcl;have hdl:=wF (cols:=gK s n 0) hm (fun c hc=>by have:=oC s n 0 c hc;omega) (by have:=oD s n 0;omega) hml;rcases Zd g with e|e
    .subst e;rw[Nat.gcd_zero_left];exact hdl
    .exact Zu (jL (Nat.gcd_le_left _ e)) h
   .exact h
 unfold vL;rw[hN];simp(disch:=try exact ag)[iv,hNi];refine lo (tG hm hn hml _ N aa N 0 0 _ aa (.inr ⟨rfl,rfl⟩) (by rw[oP];omega) fun gv hg=>?_);have hgl:=hb N 0 0 (by rw[oP];omega);have h40:(2:Nat)^40=1099511627776:=ae;generalize ow m n N 0 0=g at *
 have hor:=iG (a:=g) (b:=1) aa (by have:=jy (n:=1) (k:=1) ae;omega);rw[ma]at hor;simp(disch:=try exact ag)[gP];refine cdx (ds:=[nat g,.d (.sl 1 [.int .u32 1])]) (by simp[aS,j0 hg]) hor ?_;simp(disch:=try exact ag);exact nN (by rw[decide_eq_decide,jO])
def fB(m:LLQ):D:=.sl m.length (m.map row)
@[simp]theorem CZ(m:LLQ):norm (fB m)=fB m:=rfl
def fmB(n:Nat)(m:LLQ):Bool:=qb m&&(decide (m.length=0)||decide ((m.headD []).length=n))&&vL m n
def sV(a:LiQ)(mp:LLQ):Bool:=mp.all fun b=>decide (kI a b=0)
def rC(p:LiQ)(cm mp:LLQ):Bool:=Dn p&&decide (cm.length+mp.length=p.length)&&(fmB p.length cm&&fmB p.length mp)&&cm.all fun a=>sV a mp
theorem qJ(h1:qb m=true)(h2:m.length=0∨(m.headD []).length=n):(∀r∈m,dN r=true∧r.length=n)∧m.length<=12:=by
 have hm:jR m=true:=by simp only[qb,Z8]at h1;exact h1.1
 refine⟨fun r hr=>?_,by simp only[jR,Z8,decide_eq_true_eq]at hm;exact hm.1⟩;have:=kf hm r hr;rcases h2 with h|h
 .rw[Zf h]at hr;cases hr
 .exact⟨this.2.2,aa⟩
theorem xJ{n:Nat}(hn:n<=12){l:List LLQ}(hl:∀m∈l,m.length<1000000000∧∀r∈m,r.length<1000000000)(hN:l.length<1000000000)(k:KL)(h:Hp)(h0:Hp)(hh:h0.length=h.length):∀(q a:List LLQ),a++q=l->(q.all (fmB n)=true->k (.exit 0) [] h)->(q.all (fmB n)=false->k .ret [B false] h) ->
  lp (fa (CX Y) (I n) (lst fB l) (I l.length)) [] h0 [I a.length] h k
 | []=>by
  intro a ha h1 h2;simp at ha;subst ha;refine aj ?_;simp(disch:=try exact ag)[fa];exact h1 rfl
 | m::q=>by
  intro a ha h1 h2;have hal:a.length<l.length:=by subst ha;simp
  have hm:nth [] l a.length=m:=by subst ha;simp
  have hml:=hl m (by subst ha;simp);have eI:ixV h 1 (lst fB l) (.d (.int .i64 (a.length:Int)))=some (.dptr (l.map fB) a.length):=aJ fB _ h rfl hal
  have eL:ld1 h (.dptr (l.map fB) a.length)=some (mat m):=by
   have:=aC fB [] l h hal;rw[hm]at this;exact this
  have ih:=xJ hn hl hN k h h0 hh q (a++[m]) (by simpa using ha);have hform:=Bv (m:=m) aa (fun r hr=>by have:=hml.2 r hr;omega);simp only[List.all_cons]at h1 h2;refine aj ?_;simp(disch:=try exact ag)[fa,eI,eL];refine cd hform ?_ (by simp[aS,mat]);by_cases g1:qb m=true
  rotate_left
  .have:fmB n m=false:=by simp[fmB,g1]
   rw[this]at h2;simp(disch:=try exact ag)[g1];simpa using h2
  have hld:0<m.length->ld1 h (.dptr (m.map row) 0)=some (.d (row (nth [] m 0))):=fun h0=>ag3 m h h0
  by_cases g0:m.length=0
  .have hrw:=qJ (n:=n) g1 (.inl g0);have hfull:=xW (m:=m) hrw.1 hn hrw.2;by_cases g3:vL m n=true
   .have:fmB n m=true:=by simp[fmB,g1,g0,g3]
    rw[this]at h1 h2;simp only[Zg]at h1 h2;have:=ih h1 h2;have g0':¬(0:Int)<(m.length:Int):=aa;simp(disch:=try exact ag)[g1,g0'];refine cd hfull ?_ (by simp[aS,mat]);simp(disch:=try exact ag)[g3,hh];simpa using this
   .have:fmB n m=false:=by simp[fmB,g3]
    rw[this]at h2;have g0':¬(0:Int)<(m.length:Int):=aa;simp(disch:=try exact ag)[g1,g0'];refine cd hfull ?_ (by simp[aS,mat]);simp(disch:=try exact ag)[g3];simpa using h2
  .have g0':(0:Int)<(m.length:Int):=aa;by_cases g2:(m.headD []).length=n
   .have g2':((nth [] m 0).length:Int)=(n:Int):=by rw[rP];omega
    have hrw:=qJ (n:=n) g1 (.inr g2);have hfull:=xW (m:=m) hrw.1 hn hrw.2;by_cases g3:vL m n=true
    .have:fmB n m=true:=by simp only[fmB,g1,g2,g3];simp
     rw[this]at h1 h2;simp only[Zg]at h1 h2;have:=ih h1 h2;simp(disch:=try exact ag)[g1,g0',g2'];refine cd hfull ?_ (by simp[aS,mat]);simp(disch:=try exact ag)[g3,hh];simpa using this
    .have:fmB n m=false:=by simp[fmB,g3]
     rw[this]at h2;simp(disch:=try exact ag)[g1,g0',g2'];refine cd hfull ?_ (by simp[aS,mat]);simp(disch:=try exact ag)[g3];simpa using h2
   .have g2':¬((nth [] m 0).length:Int)=(n:Int):=by rw[rP];omega
    have:fmB n m=false:=by
     have e1:decide (m.length=0)=false:=by simpa using g0
     have e2:decide ((m.headD []).length=n)=false:=by simpa using g2
     simp only[fmB,g1,e1,e2];rfl
    rw[this]at h2;simp(disch:=try exact ag)[g1,g0',g2'];simpa using h2
theorem xD{a:LiQ}{mp:LLQ}(ha:dN a=true)(hal:a.length<=12)(hm:∀r∈mp,dN r=true∧r.length=a.length)(hml:mp.length<=12)(k:KL)(h h0:Hp)(hh:h0.length=h.length):∀(q p:LLQ),p++q=mp->(sV a q=true->k (.exit 4) [] h)->(sV a q=false->k .ret [B false] h) ->
  lp (eX (CX Y) (.d (row a)) (mat mp) (I mp.length)) [] h0 [I p.length] h k
 | []=>by
  intro p hp h1 h2;simp at hp;subst hp;refine aj ?_;simp(disch:=try exact ag)[eX];exact h1 rfl
 | b::q=>by
  intro p hp h1 h2;have hpl:p.length<mp.length:=by subst hp;simp
  have hb:nth [] mp p.length=b:=by subst hp;simp
  have hbr:=hm b (by subst hp;simp);have ih:=xD ha hal hm hml k h h0 hh q (p++[b]) (by simpa using hp);have hd:=uz a b aa ha hbr.1;simp only[sV,List.all_cons]at h1 h2 ih;refine aj ?_;simp(disch:=try exact ag)[eX,hb];refine cd (args:=[lst di a,lst di b]) (Aa (a:=a) (b:=b) aa aa ha hbr.1) ?_
  simp(disch:=try exact ag);refine cd (jV (n:=0) aa) ?_;simp(disch:=try exact ag);refine cd (vM (a:=kI a b) (b:=0) (fV aa aa) (fV aa aa)) ?_;by_cases g:kI a b=0
  .rw[show decide (kI a b=0)=true by simpa using g]at h1 h2;simp only[Zg]at h1 h2;have:=ih h1 h2;simp(disch:=try exact ag)[g,hh];simpa using this
  .rw[show decide (kI a b=0)=false by simpa using g]at h2;simp(disch:=try exact ag)[g];simpa using h2
theorem xH{cm mp:LLQ}{n:Nat}(hn:n<=12)(hc:∀r∈cm,dN r=true∧r.length=n)(hm:∀r∈mp,dN r=true∧r.length=n)(hcl:cm.length<=12)(hml:mp.length<=12)(k:KL)(x y:V)(h0:Hp)(hh:h0.length=1):∀(q a:LLQ),a++q=cm->(q.all (fun a=>sV a mp)=true->k (.exit 2) [] [(1,.vars [x,y,mat mp])])->(q.all (fun a=>sV a mp)=false->k .ret [B false] [(1,.vars [x,y,mat mp])]) ->
  lp (eZ (CX Y) (.ptr 0 1 0 3) (mat cm) (I cm.length)) [] h0 [I a.length] [(1,.vars [x,y,mat mp])] k
 | []=>by
  intro a ha h1 h2;simp at ha;subst ha;refine aj ?_;simp(disch:=try exact ag)[eZ];exact h1 rfl
 | b::q=>by
  intro a ha h1 h2;have hal:a.length<cm.length:=by subst ha;simp
  have hb:nth [] cm a.length=b:=by subst ha;simp
  have hbr:=hc b (by subst ha;simp);have ih:=xH hn hc hm hcl hml k x y h0 hh q (a++[b]) (by simpa using ha);simp only[List.all_cons]at h1 h2;refine aj ?_;simp(disch:=try exact ag)[eZ,hb];refine lo (xD hbr.1 aa (fun r hr=>⟨(hm r hr).1,by rw[(hm r hr).2,hbr.2]⟩) hml _ _ _ rfl mp [] rfl (fun g=>?_) (fun g=>?_))
  .rw[g]at h1 h2;simp only[Zg]at h1 h2;have:=ih h1 h2;simp(disch:=try exact ag)[hh];simpa using this
  .rw[g]at h2;simp(disch:=try exact ag);simpa using h2
theorem rt(hp:p.length<1000000000)(hc:cm.length<1000000000∧∀r∈cm,r.length<1000000000)(hm:mp.length<1000000000∧∀r∈mp,r.length<1000000000):CP Y F.d5 [.agg [lst di p,mat cm,mat mp]] (B (rC p cm mp)):=by
 refine mD ?_;simp(disch:=try exact ag)[d5];refine cd (tu hp) ?_;by_cases g1:Dn p=true
 rotate_left
 .simp(disch:=try exact ag)[g1];exact nN (by simp[rC,g1])
 have hp6:=pU g1;by_cases g2:cm.length+mp.length=p.length
 rotate_left
 .have g2':¬(cm.length:Int)+(mp.length:Int)=(p.length:Int):=aa;simp(disch:=try exact ag)[g1,g2'];exact nN (by simp[rC,g2])
 have g2':((cm.length:Int)+(mp.length:Int)=(p.length:Int))=True:=eq_true aa
 have hli:∀H:Hp,cO 2 [nPQ] [(0,mat cm),(1,mat mp)] H=some ([fB cm,fB mp],H):=fun H=>by
  have e1:mat cm=.d (fB cm):=rfl;have e2:mat mp=.d (fB mp):=rfl;rw[e1,e2];simp[cO,jv,iH,toD]
 have hl2:V.d (.sl 2 [fB cm,fB mp])=lst fB [cm,mp]:=rfl;simp(disch:=try exact ag)[g1,g2'];rw[hli];simp(disch:=try exact ag);rw[hl2];simp(disch:=try exact ag);refine lo (xJ (n:=p.length) aa (l:=[cm,mp]) (by simp;exact⟨hc,hm⟩) af _ _ _ rfl [cm,mp] [] rfl (fun g=>?_) (fun g=>?_))
 .simp only[List.all_cons,List.all_nil,Y4,Z8]at g;obtain⟨f1,f2⟩:=g;have f1':=f1;have f2':=f2;simp only[fmB,Z8,Yg,decide_eq_true_eq]at f1 f2;have r1:=qJ f1.1.1 f1.1.2;have r2:=qJ f2.1.1 f2.1.2;simp(disch:=try exact ag)
  refine lo (xH (n:=p.length) aa r1.1 r2.1 r1.2 r2.2 _ _ _ _ rfl cm [] rfl (fun g=>?_) (fun g=>?_))
  .simp(disch:=try exact ag);exact nN (by simp only[rC,g1,g2,f1',f2',g];simp)
  .simp(disch:=try exact ag);exact nN (by simp only[rC,g];simp)
 .simp(disch:=try exact ag);refine nN ?_;have e:(fmB p.length cm&&fmB p.length mp)=false:=by simpa[Xa]using g
  simp only[rC,e];simp
theorem qQ(h0:0<n)(h:n<1000000000):dig Z n=[n]:=by rw[ww h0];have hZ:Z=1000000000:=rfl;rw[hZ,Yk h,Wr h,j4]
def frT(a:Int)(d:Nat):LuQ×LuQ:=(itoa (a.tdiv (Nat.gcd a.natAbs d)),itoa ((d/Nat.gcd a.natAbs d:Nat):Int))
def txV(x:LuQ×LuQ):V:=.agg [S x.1,S x.2]
theorem vz(k:KL):∀(y x:Nat)(h0 h:Hp),h0.length=h.length->(k (.exit 0) [I (Nat.gcd x y)] h)->lp (dL (CX Y)) [] h0 [I x,I y] h k:=by
 intro y
 induction y using Nat.strongRecOn with
 | _ y ih=>
  intro x h0 h hh hk;refine aj ?_;by_cases hy:y=0
  .subst hy;simp(disch:=try exact ag)[dL];simpa using hk
  .have hm:=Y7 x (X1 hy);have e:(x:Int).tmod (y:Int)=((x%y:Nat):Int):=by rw[Zx aa];simp
   have hg:Nat.gcd y (x%y)=Nat.gcd x y:=by rw[V5 y,<-Nat.gcd_rec,V5]
   have:=ih (x%y) hm y h0 h hh (by rw[hg];exact hk);simp(disch:=try exact ag)[dL,e,hh];simpa using this
theorem yK{s:Bool}(hn:n<1000000000)(hd0:0<d)(hd:d<1000000000):CP Y F.dd [wh s n,I d] (txV (itoa (if s then -((n/Nat.gcd n d:Nat):Int)else((n/Nat.gcd n d:Nat):Int)),itoa ((d/Nat.gcd n d:Nat):Int))):=by
 refine mj ?_;obtain⟨g,hg⟩:=mnQ (Nat.gcd n d);have hg0:0<g:=by rw[<-hg];exact Ww _ hd0
 have e1:(n:Int).tdiv (g:Int)=((n/g:Nat):Int):=by rw[Zs aa];simp
 have e2:(d:Int).tdiv (g:Int)=((d/g:Nat):Int):=by rw[Zs aa];simp
 have l1:=Yu n g;have l2:=Yu d g;rw[hg];obtain⟨n',hn'⟩:=mnQ (n/g);obtain⟨d',hd'⟩:=mnQ (d/g);rw[hn']at e1 l1 ⊢;rw[hd']at e2 l2 ⊢;have hg0':¬(g:Int)=0:=aa;have ha:∀z:Int,-1000000000<z∧z<1000000000->CP Y F.bi [I z] (S (itoa z)):=fun z hz=>tn aa aa
 have hb:=ha (d':Int) aa;have hloop:=vz
 have main:∀(H:Hp),H.length=2->H=[(1,.vars [.d (.bool s),et n]),(1,.vars [S [],S []])]->lp (dL (CX Y)) [] H [I n,I d] H (exK [((.exit 0),fun l9 h=>
   bnd (biI .quo (I n) (ge l9 0)) fun v10=>
   bnd (biI .quo (I d) (ge l9 0)) fun v11=>
   bnd (faV 0 (.ptr 0 1 0 2)) fun v12=>
   bnd (ld1 h v12) fun v13=>
   jn (fun l14 h=>
    cal (CX Y).p h (.fn F.bi [] []) [(ge l14 0)] fun v16 h=>
    cal (CX Y).p h (.fn F.bi [] []) [v11] fun v17 h=>
    bnd (bld [(0,1),(1,1)] [.str [],.str []] [(0,v16),(1,v17)]) fun v18=>
    stD h 2 (.ptr 1 1 0 2) v18 fun _ h=>
    bnd (ldA h 2 (.ptr 1 1 0 2)) fun v20=>
    out (txV (itoa (if s then -(n':Int)else(n':Int)),itoa (d':Int))) v20 h) fun q15=>
    cnd v13 (
     bnd (unV .neg v10) fun v21=>
     q15 [v21] h) (
     q15 [v10] h))]):=by
  intro H hH hHe;refine hloop _ d n H H rfl ?_;rw[hg];subst hHe
  have hfin:∀z:Int,-1000000000<z∧z<1000000000->∀h:Hp,h=[(1,.vars [.d (.bool s),et n]),(1,.vars [S [],S []])]->(cal (CX Y).p h (.fn F.bi [] []) [I z] fun v16 h=>
    cal (CX Y).p h (.fn F.bi [] []) [I (d':Int)] fun v17 h=>
    bnd (bld [(0,1),(1,1)] [.str [],.str []] [(0,v16),(1,v17)]) fun v18=>
    stD h 2 (.ptr 1 1 0 2) v18 fun _ h=>
    bnd (ldA h 2 (.ptr 1 1 0 2)) fun v20=>
    out (txV (itoa z,itoa (d':Int))) v20 h):=by
   intro z hz h hh;subst hh;simp(disch:=try exact ag);refine cd (ha z hz) ?_;simp(disch:=try exact ag);refine cd hb ?_;simp(disch:=try exact ag);exact ju (by simp[bJ,aS,txV])
  cases s
  .simp(disch:=try exact ag)[e1,e2];refine aT ?_;exact hfin (n':Int) aa _ rfl
  .simp(disch:=try exact ag)[e1,e2];refine aT ?_;have hw:IntKind.wrap .i64 (-(n':Int)) = -(n':Int):=uo aa aa;simp(disch:=try exact ag)[hw];have:=hfin (-(n':Int)) aa _ rfl;simp(disch:=try exact ag)at this;exact this
 by_cases h0:n=0
 .subst h0;have hdz:et 0=.d (.sl 0 []):=rfl;have:=main _ rfl rfl;rw[hdz]at this;have hlz:bj (.d (.sl 0 []))=some (I 0):=rfl;simp(disch:=try exact ag)[dd,wh,hdz,hlz];refine aT ?_;simp(disch:=try exact ag);exact this
 .have hd1:=qQ aa hn;have hdz:et n=lst i9 [n]:=by unfold et;rw[hd1]
  have:=main _ rfl rfl;rw[hdz]at this;have hix:∀h:Hp,ixV h 1 (lst i9 [n]) (.d (.int .i64 0))=some (.dptr ([n].map i9) 0):=fun h=>rfl
  have hld:∀h:Hp,ld1 h (.dptr ([n].map i9) 0)=some (I n):=fun h=>rfl
  simp(disch:=try exact ag)[dd,wh,hdz];refine aT ?_;simp(disch:=try exact ag)[hix,hld];exact this
theorem Be{a:Int}(ha:a.natAbs<1000000000)(hd0:0<d)(hd:d<1000000000):CP Y F.eE [jz a,jz (d:Int)] (txV (frT a d)):=by
 refine nW ?_;have hsg:=zq (s:=decide ((d:Int)<0)) (n:=((d:Int).natAbs)) (by rw[Int.natAbs_natCast];unfold aic;rw[qQ hd0 hd];simp);have hl:=yK (s:=decide (a<0)) ha hd0 hd
 have hres:txV (itoa (if decide (a<0)=true then -((a.natAbs/Nat.gcd a.natAbs d:Nat):Int)else((a.natAbs/Nat.gcd a.natAbs d:Nat):Int)),itoa ((d/Nat.gcd a.natAbs d:Nat):Int))=txV (frT a d):=by
  unfold frT;congr 3;by_cases h:a<0
  .simp only[h,decide_true,if_true];obtain⟨n,rfl⟩:∃n:Nat,a = -(n:Int):=⟨a.natAbs,aa⟩;rw[Int.natAbs_neg,Int.natAbs_natCast,Int.neg_tdiv];congr 1
  .simp only[h,decide_false,Ze,if_false];obtain⟨n,rfl⟩:∃n:Nat,a=(n:Int):=⟨a.natAbs,aa⟩;rw[Int.natAbs_natCast];rfl
 rw[hres]at hl
 have hdw:jz (d:Int)=.agg [.d (.bool false),lst i9 [d]]:=by
  unfold jz wh et;rw[Int.natAbs_natCast,qQ hd0 hd];simp
 have hsg':CP Y F.bT [.agg [.d (.bool false),lst i9 [d]]] (I 1):=by
  rw[show wh (decide ((d:Int)<0)) (d:Int).natAbs=jz (d:Int)from rfl,hdw]at hsg;rw[if_neg aa]at hsg;simpa[show ¬(d:Int)<0 by omega]using hsg
 rw[hdw];have hix:∀h:Hp,ixV h 1 (lst i9 [d]) (.d (.int .i64 0))=some (.dptr ([d].map i9) 0):=fun h=>rfl
 have hld:∀h:Hp,ld1 h (.dptr ([d].map i9) 0)=some (I d):=fun h=>rfl
 have hla:∃j:Nat,bj (et a.natAbs)=some (I j)∧j<=1:=by
  by_cases h0:a.natAbs=0
  .exact⟨0,by rw[h0];rfl,aa⟩
  .exact⟨1,by unfold et;rw[qQ aa ha];rfl,aa⟩
 obtain⟨j,hj,hj1⟩:=hla;obtain⟨s9,hs9⟩:=mnQ (decide (a<0));unfold jz;rw[hs9]at hl ⊢;have hok9:=ve a.natAbs;simp(disch:=try exact ag)[eE,wh];refine cd hsg' ?_ (by simp[aS,bJ]);simp(disch:=try exact ag);refine aT ?_;simp(disch:=try exact ag)[hj,hix,hld]
 refine cd (args:=[.agg [.d (.bool s9),et a.natAbs],I d]) hl ?_ (by simp[aS,bJ,et]);simp(disch:=try exact ag)[txV];exact ju (by simp[bJ,aS])
theorem Bu{a:Int}(ha:a.natAbs<1000000000)(hd0:0<d)(hd:d<1000000000):CP Y F.eF [I a,I d] (txV (frT a d)):=by
 refine nY ?_;simp(disch:=try exact ag)[eF];refine cd (w8 (z:=a) aa aa) ?_;simp(disch:=try exact ag);refine cd (w8 (z:=(d:Int)) aa aa) ?_;simp(disch:=try exact ag);refine cd (Be ha hd0 hd) ?_ (by simp[aS,bJ,jz,wh,et])
 simp(disch:=try exact ag)[txV];exact ju (by simp[bJ,aS])
theorem xL{a:Int}(ha:a.natAbs<1000000000)(hd0:0<d)(hd:d<1000000000):CP Y F.eJ [I a,I d] (txV (frT a d)):=by refine oK ?_;simp(disch:=try exact ag)[eJ];refine cd (Bu ha hd0 hd) ?_;simp(disch:=try exact ag)[txV];exact ju (by simp[bJ,aS])
theorem Df:ndg 1=1:=by unfold ndg;rfl
theorem BV:itoa 1=[49]:=by unfold itoa ai;rw[if_neg aa,show(1:Int).natAbs=1 from rfl,Df];rfl
theorem Cs:itoa (-1)=[45,49]:=by unfold itoa ai;rw[if_pos aa,show(-1:Int).natAbs=1 from rfl,Df];rfl
theorem D3:frT 1 1=([49],[49]):=by unfold frT;rw[show(1:Int).tdiv (Nat.gcd (1:Int).natAbs 1:Nat)=1 from rfl,show(((1/Nat.gcd (1:Int).natAbs 1:Nat)):Int)=1 from rfl,BV]
theorem DC:frT (-1) 1=([45,49],[49]):=by unfold frT;rw[show(-1:Int).tdiv (Nat.gcd (-1:Int).natAbs 1:Nat) = -1 from rfl,show(((1/Nat.gcd (-1:Int).natAbs 1:Nat)):Int)=1 from rfl,BV,Cs]
theorem kn1:c8 3 4 [50,53]=true:=bb
theorem kn2:c8 3 4 [50,52]=false:=bb
theorem kn3:zr [2,3] [([45,49],[49]),([49],[49])] 1 0 [(2,0,[49]),(3,0,[49])]=true:=bb
theorem kn4:tZ [[2,0],[0,3]] [1,-1] [2,-3]=true:=bb
theorem kn5:rC [2,3,5] [[4,-4,1]] [[1,0,-4],[0,1,4]]=true:=bb
theorem rS:CP Y F.dF [] (B true):=by
 refine m9 ?_;have b1:=jX 3 4 [50,53];have b2:=jX 3 4 [50,52];rw[kn1]at b1;rw[kn2]at b2;have o1:=xL (a:=-1) (d:=1) ae ae ae;have o2:=xL (a:=1) (d:=1) ae ae ae;rw[DC]at o1;rw[D3]at o2
 have sg:=A0 (p:=[2,3]) (s:=[([45,49],[49]),([49],[49])]) (sg:=1) (bits:=0) (bs:=[(2,0,[49]),(3,0,[49])]) af af;rw[kn3]at sg;have mb:=yJ (m:=[[2,0],[0,3]]) (ks:=[1,-1]) (x:=[2,-3]) af af af af af;rw[kn4]at mb;have tp:=rt (p:=[2,3,5]) (cm:=[[4,-4,1]]) (mp:=[[1,0,-4],[0,1,4]]) af af af;rw[kn5]at tp
 simp(disch:=try exact ag)[dF,cO,jv,iH,toD];refine cd b1 ?_;simp(disch:=try exact ag);refine cd o1 ?_;simp(disch:=try exact ag);refine cd o2 ?_;simp(disch:=try exact ag)[txV,cO,jv,iH,toD];refine cd sg ?_ (by simp[aS,bJ]);simp(disch:=try exact ag)[cO,jv,iH,toD]
 refine cd mb ?_ (by simp[aS,bJ]);simp(disch:=try exact ag);refine cd tp ?_ (by simp[aS,bJ]);simp(disch:=try exact ag);refine cd b2 ?_;simp(disch:=try exact ag)
def wc(z:Int):LdQ:=[.bool (decide (z<0)),.sl (aic z.natAbs) ((dig Z z.natAbs).map i9)]
variable{h:Hp}{a:V}{r:LiQ}
def sH(b0:Nat×Bk)(zs:LiQ):Hp:=[b0,(1,.data 2 (zs.flatMap wc) false false)]
@[simp]theorem DW(b0:Nat×Bk)(zs:LiQ):List.length (sH b0 zs)=2:=id rfl
theorem xe(h:n<10^63):aic n<=7:=Bn (by rw[A7];exact h)
def oj(p b:Int)(l:LuQ):V:=.agg [I p,I b,S l]
@[simp]theorem Dc(h:Hp)(p b:Int)(l:LuQ):bJ h (oj p b l)=some (oj p b l,h):=rfl
theorem CF(A:k8){p:Nat}(hp:ta (p:Int)=true)(hn:n<=64)(hN:pq p n 160=some N):CP Y F.fK [I p,I n] (.tup [oj p n (ai N),I 0]):=by refine np ?_;have cb:=kN p n;rw[hp]at cb;simp only[cond_true]at cb;rw[if_neg aa]at cb;obtain⟨M,hM,_,lo⟩:=uy A hp hn;rw[hN]at hM;obtain rfl:=Option.some.inj hM;simp[fK];refine cd cb ?_;simp;refine cd lo ?_;simp;exact⟨_,rfl⟩
theorem BB{p n:Int}(hp:ta p=false):CP Y F.fK [I p,I n] (.tup [oj 0 0 [],I 25]):=by refine np ?_;have cb:=kN p n;rw[hp]at cb;simp only[cond_false]at cb;simp[fK];refine cd cb ?_;simp;exact⟨_,rfl⟩
theorem yN(A:k8){p b:Int}{l:LuQ}(hl:l.length<1000)(b0:0<=b)(b1:b<=64):∃z,CP Y F.du [oj p b l] (I z)∧(z=0↔c8 p b l=true):=by
 have cb:=kN p b;have bx:∀(q:kkQ)(u:PU q),rh (cQ 0 (oj p b l) [nnQ]) q u=q (.ptr 0 1 0 3) [(1,.vars [I p,I b,S l])]:=fun _ _=>rfl
 cases hp:ta p with
 | false=>
  rw[hp]at cb;simp only[cond_false]at cb;refine⟨25,?_,by simp[c8,hp];split<;>simp⟩;refine gQ ?_;simp[du,bx];refine cd cb ?_;simp<;>exact cx rfl
 | true=>
  rw[hp]at cb;simp only[cond_true]at cb;rw[if_neg aa]at cb;have hp97:=lJ hp;obtain⟨n,rfl⟩:∃n:Nat,p=n:=⟨p.toNat,aa⟩;obtain⟨m,rfl⟩:∃m:Nat,b=m:=⟨b.toNat,aa⟩;obtain⟨N,hN,_,lo⟩:=uy A hp (n:=m) aa;have cw:=H7 l aa;cases hr:rd l with
  | none=>
   rw[hr]at cw;refine⟨2,?_,by simp[show c8 n m l=false by unfold c8;rw[hr]]⟩;refine gQ ?_;simp[du,bx];refine cd cb ?_;simp;refine cd cw ?_;simp<;>exact cx rfl
  | some z=>
   rw[hr]at cw;obtain⟨ht,_⟩:=PI hr;have eN:ai N=itoa (N:Int):=by unfold itoa;rw[if_neg aa];rfl
   have iff:l=ai N↔c8 n m l=true:=by
    rw[eN];simp only[c8,hr,hp,Int.toNat_natCast,hN];constructor
    .intro e;have:z=N:=VM (ht.symm.trans e);subst this;simp;omega
    .intro e;simp at e;rw[ht];congr 1;omega
   by_cases e:l=ai N
   .refine⟨0,?_,by simp[iff.1 e]⟩;refine gQ ?_;simp[du,bx];refine cd cb ?_;simp;refine cd cw ?_;simp;refine cd lo ?_;simp[e]<;>exact cx rfl
   ·have eb:c8 n m l=false:=by
     cases hh:c8 n m l with
     |false=>rfl
     |true=>exact absurd (iff.2 hh) e
    refine⟨23,?_,by simp[eb]⟩;refine gQ ?_;simp[du,bx];refine cd cb ?_;simp;refine cd cw ?_;simp;refine cd lo ?_;simp[e]<;>exact cx rfl
theorem zb(A:k8){p b:Int}{l:LuQ}(hl:l.length<1000):CP Y F.bf [oj p b l] (B (c8 p b l)):=by
 refine kq ?_;have bx:∀(q:kkQ)(u:PU q),rh (cQ 0 (oj p b l) [nnQ]) q u=q (.ptr 0 1 0 3) [(1,.vars [I p,I b,S l])]:=fun _ _=>rfl
 have l3:ldA [(1,.vars [I p,I b,S l])] 3 (.ptr 0 1 0 3)=some (oj p b l):=rfl;by_cases b0:0<=b
 .by_cases b1:b<=64
  .obtain⟨z,ck,hz⟩:=yN A (p:=p) hl b0 b1;simp[bf,bx,b0,b1,l3];refine cd ck ?_;simp;exact nN (by rw[Xz];simp[hz])
  .have:c8 p b l=false:=by unfold c8;split<;>simp[b1]
   rw[this];simp[bf,bx,b0,b1]
 .have:c8 p b l=false:=by unfold c8;split<;>simp[b0]
  rw[this];simp[bf,bx,b0]
theorem zC(h:ndg n<=400):rd (ai n)=some (n:Int):=by
 have e:=Le (n:Int);have e2:itoa (n:Int)=ai n:=by unfold itoa;rw[if_neg aa];rfl
 rw[e2]at e;have hl:(ai n).length<=400:=by unfold ai;rw[bh];exact h
 unfold rd rdT;rw[if_neg (tg n),if_pos hl,e]
theorem ql{p:Nat}(hp:ta (p:Int)=true)(hn:n<=64)(hN:pq p n 160=some N)(hz:z≠N):c8 p n (itoa z)=false:=by
 cases hr:rd (itoa z)with
 |none=>unfold c8;simp only[hr]
 | some w=>
  have:=VM (PI hr).1;subst this;simp only[c8,hr,hp,Int.toNat_natCast,hN];simp
  intros
  omega
theorem xg(A:k8)(p b:Int)(l:LuQ){x:Nat}(hx:x<256)(hy:y<256):CP Y F.aU [oj p b l,.d (.int .u8 x),.d (.int .u8 y)] (B true):=by
 refine j6 ?_;have bx:∀(q:kkQ)(u:PU q),rh (cQ 0 (oj p b l) [nnQ,nnQ,nnQ,nnQ]) q u=q (.ptr 0 1 0 3) [(1,.vars [I p,I b,S l]),nnQ,nnQ,nnQ]:=fun _ _=>rfl
 have ll:nS (S l)=some (I l.length):=rfl;by_cases h40:40<l.length
 .have g:(40:Int)<l.length:=aa;simp[aU,bx];refine cd rS ?_;simp[ll,g];refine cd rS ?_;simp
 have g:¬(40:Int)<l.length:=aa;have l3:∀a c d,ldA [(1,.vars [I p,I b,S l]),a,c,d] 3 (.ptr 0 1 0 3)=some (oj p b l):=fun _ _ _=>rfl
 have bo:CP Y F.aI [oj p b l] (B (c8 p b l)):=jX p b l;have br:=zb A (p:=p) (b:=b) (l:=l) aa;obtain⟨P,hP⟩:=nmQ (2+x%96);obtain⟨n,hn⟩:=nmQ (y%65);have e1:(2:Int)+(x:Int)%96=(P:Int):=aa;have e2:(y:Int)%65=(n:Int):=aa;simp[aU,bx];refine cd rS ?_;simp[ll,g,l3];refine cd bo ?_;simp[l3]
 refine cd br ?_;simp(disch:=try exact ag)[Zx,e1,e2];cases hp:ta (P:Int)with
 | false=>
  refine cd (BB hp) ?_;simp(disch:=try exact ag)[oj];refine cd (L4 (P:Int)) ?_;simp[hp]
 | true=>
  obtain⟨N,hN,hN71,_⟩:=uy A hp (n:=n) aa;have hn64:n<=64:=aa;have h22:(2:Nat)^71<10^22:=ae;have n22:ndg N<=22:=cN aa ae;have eN:itoa (N:Int)=ai N:=by unfold itoa;rw[if_neg aa];rfl
  have tN:=BS (z:=(N:Int)) bK;rw[eN]at tN;have l7:∀k:Nat,k<10^23->aic k<=7:=fun k h=>xe (Nat.lt_trans h ae)
  have k0:=l7 N aa;have k1:=l7 1 ae;have k2:=l7 (N+1) aa;have k3:=l7 ((N:Int)+1).natAbs aa;have k4:=l7 ((N:Int)-1).natAbs aa;have o1:=w8 (z:=1) ae ae;have ad:=yj (x:=(N:Int)) (y:=1) bK bK bK;have sb:=AY (x:=(N:Int)) (y:=1) bK bK bK
  have f1:=yc (z:=(N:Int)+1) aa;have f2:=yc (z:=(N:Int)-1) aa
  have b0:CP Y F.aI [.agg [I P,I n,S (ai N)]] (B true):=by
   have:=jX P n (ai N)
   have e:c8 P n (ai N)=true:=by
    simp only[c8,zC (show ndg N<=400 by omega),hp,Int.toNat_natCast,hN];simp;omega
   rw[e]at this;exact this
  have b1:CP Y F.aI [.agg [I P,I n,S (itoa ((N:Int)+1))]] (B false):=by
   have:=jX P n (itoa ((N:Int)+1));rw[ql hp hn64 hN aa]at this;exact this
  have b2:CP Y F.aI [.agg [I P,I n,S (itoa ((N:Int)-1))]] (B false):=by
   have:=jX P n (itoa ((N:Int)-1));rw[ql hp hn64 hN aa]at this;exact this
  refine cd (CF A hp aa hN) ?_;simp(disch:=try exact ag)[oj,sp,apt];refine cd tN ?_;simp(disch:=try exact ag);refine cd o1 ?_;simp(disch:=try exact ag);refine cd ad ?_ (by simp[aS,bJ,jz,wh,et]);simp(disch:=try exact ag);refine cd f1 ?_ (by simp[aS,bJ,jz,wh,et])
  simp(disch:=try exact ag);refine cd tN ?_;simp(disch:=try exact ag);refine cd o1 ?_;simp(disch:=try exact ag);refine cd sb ?_ (by simp[aS,bJ,jz,wh,et]);simp(disch:=try exact ag);refine cd f2 ?_ (by simp[aS,bJ,jz,wh,et]);simp(disch:=try exact ag);refine cd b0 ?_
  simp(disch:=try exact ag);refine cd b1 ?_;simp(disch:=try exact ag);refine cd b2 ?_;simp
theorem AA:k8:=fun x y c hx hy hc=>by
 have ho:Y.X.orc F.eM [.int .u64 x,.int .u64 y,.int .u64 c]=some (.tuple #[.int .u64 (((x+y+c)%W6:Nat):Int),.int .u64 (((x+y+c)/W6:Nat):Int)]):=by
  have e:∀a,Y.X.orc F.eM a=yk a:=fun a=>rfl
  rw[e];unfold yk;simp only;rw[if_pos ⟨aa,aa,aa,aa⟩];simp[gL]
 exact CP.orc ho (by intro x hx;simp only[Zo,Ys,or_false]at hx;rcases hx with rfl|rfl|rfl<;>rfl) rfl
theorem vG(p b:Int)(l:LuQ){x:Nat}(hx:x<256)(hy:y<256):CP Y F.aU [oj p b l,.d (.int .u8 x),.d (.int .u8 y)] (B true):=xg AA p b l hx hy
abbrev Q:=Int×Nat
variable{x:Q}
def okQ(x:Q):Prop:=0<x.2∧Nat.gcd x.1.natAbs x.2=1
def gU(n:Int)(d:Nat):Q:=(n/(Nat.gcd n.natAbs d:Nat),d/Nat.gcd n.natAbs d)
def vm(a b:Q):Q:=gU (a.1*b.2+b.1*a.2) (a.2*b.2)
def tX(a b:Q):Q:=gU (a.1*b.1) (a.2*b.2)
def vW(n d:Int):Q:=if d<0 then gU (-n) d.natAbs else gU n d.natAbs
def ah6(a b:Q):Q:=vW (a.1*b.2) (a.2*b.1)
def qL(K:Nat)(x:Q):Prop:=ndg x.1.natAbs<=K∧ndg x.2<=K
theorem qL.mono{K:Nat}(h:qL K x)(hl:K<=L):qL L x:=⟨Zu h.1 hl,Zu h.2 hl⟩
@[simp] theorem ae8 (f:α->D)(l:List α)(place:Nat->Option (Nat×Nat))(cs:LwQ)(r:List (Nat×V))(off sz:Nat):
  Mm (some (off,sz)) place cs (lst f l) r=if 1=sz∧off+1<=cs.length then tS place (cs.take off++[lst f l]++cs.drop (off+1)) r else none:=id rfl
def tx(x:Q):Tx:=(itoa x.1,ai x.2)
def szV(s:List Q):V:=qm aK (s.map tx)
def okS(s:List Q):Prop:=∀x∈s,okQ x∧qL 30 x
def hz(h:Hp)(l:List Tx):Hp:=h++[(1,.data 2 (l.flatMap aK) true false)]
def abd(n:Nat):List Q:=(1,1)::List.replicate (n-1) (0,1)
def smR(r:LiQ):Bool:=r.all fun x=>decide (-1000<=x)&&decide (x<=1000)
def Gm(n:Nat):LLQ->Int
 |[]=>0
 |r::m=>if r.length≠n then 5 else if smR r=true then Gm n m else 4
def mzB(p:LiQ)(m:LLQ):Int:=if pcB p=0 then Gm p.length m else pcB p
def ofQ(r:LiQ):List Q:=r.map fun x=>(x,1)
def yx(k:Q):List Q->List Q->List Q
 |x::o,y::s=>vm x (tX y k)::yx k o s
 |_,_=>[]
def Gd:List Q->List (List Q)->List Q->List Q
 |o,s::l,k::f=>Gd (yx k o s) l f
 |o,_,_=>o
def szD(s:List Q):D:=.sl (s.map tx).length ((s.map tx).flatMap aK)
@[simp]theorem afJ(s:List Q):norm (szD s)=szD s:=rfl
def qX(n:Nat)(l:List (List Q))(f:List Q):List Q:=Gd (List.replicate n (0,1)) l f
structure zx(b:Nat)(c:UInt8)(kb:Nat):Prop where
 hc:ai b=[c]
 c1:¬c=49
 c2:¬c=48
 b2:2<=b
 b8:b<=8
 hkb:aY b=kb
 k2:2<=kb
 k4:kb<=4
 n1:ndg b=1
variable{b:Nat}{c:UInt8}{kb:Nat}
def pX:Nat->List Q->Nat
 |d,[]=>d
 |d,x::s=>pX (Nat.lcm d x.2) s
def ja(d:Nat):LiQ->List Q->List (Int×Int)
 |p::ps,x::s=>if x.1=0 then ja d ps s else(p,x.1*((d/x.2:Nat):Int))::ja d ps s
 |_,_=>[]
def lg(p:Int)(n:Nat):Nat:=(CU p.toNat n).getD 0
def eA(n:Nat):List (Int×Int)->Int×Int->Int×Int
 |[],a=>a
 | t::ts,a=>
  let x:Int:=lg t.1 n
  let y:Int:=if t.1=2 then x else x+1
  eA n ts (if t.2<0 then(a.1+y*t.2,a.2+x*t.2)else(a.1+x*t.2,a.2+y*t.2))
def ad5(n:Nat)(ts:List (Int×Int)):Prop:=∀t∈ts,2<=t.1∧t.1<1000000∧(CU t.1.toNat n).isSome=true∧ndg (lg t.1 n)<=1500
def oL(most:Int):List (Int×Int)->Int×Int->Option (Int×Int)
 |[],a=>some a
 | t::ts,a=>if most<t.2∨t.2 < -most then none else match AI t.1.toNat with
  |none=>none
  | some f=>
   let b:Int:=if t.1=2 then f else f+1
   oL most ts (a.1+min (t.2*f) (t.2*b),a.2+max (t.2*f) (t.2*b))
def okT(ts:List (Int×Int)):Prop:=ts.length<=600∧∀t∈ts,2<=t.1∧t.1<1000000∧t.2.natAbs<9223372036854775808
def qY(ts:List (Int×Int)):Int:=match oL 10000000 ts (0,0)with
 |none=>0
 |some a=>if 0<=a.1 then 1 else if a.2<=0 then -1 else 0
def HK(ts:List (Int×Int)):Prop:=∀i,i<6->ad5 (64*2^i) ts
def IM(ts:List (Int×Int)):Nat->Nat->Option Int
 |0,_=>none
 |r+1,n=>if 0<=(eA n ts (0,0)).1 then some 1 else if(eA n ts (0,0)).2<=0 then some (-1)else IM ts r (n*2)
def KZ(ts:List (Int×Int)):Option Int:=match ts with
 |[]=>some 0
 |_=>if qY ts≠0 then some (qY ts)else IM ts 6 64
def tq(p:LiQ)(s:List Q):List (Int×Int):=ja (pX 1 s) p s
def K3(p:LiQ)(s:List Q)(z:Int):Prop:=okT (tq p s)∧HK (tq p s)∧KZ (tq p s)=some z
def dfS(p:LiQ)(a b:List Q):List Q:=qX p.length [a,b] [(1,1),(-1,1)]
def A3(z:Int):Int:=max z (-z)*(2*max z 0-1)
def YY(p:LiQ)(s:List Q)(z:Int):List Q:=qX p.length [s] [(A3 z,1)]
def afD(x y:Int×Int)(d g:Int):Option Int:=
 let z:(Int×Int)×(Int×Int):=if y.2<=0 then((-x.2,-x.1),(-y.2,-y.1))else(x,y)
 if z.2.1<=0 then none else
  let low:=if z.1.1<0 then z.2.1 else z.2.2
  let high:=if z.1.2<0 then z.2.2 else z.2.1
  if z.1.1*g/(low*d)=z.1.2*g/(high*d)then some (z.1.1*g/(low*d))else none
def afC(tx ty:List (Int×Int))(d g:Nat):Option Int:=match oL 100000 tx (0,0),oL 100000 ty (0,0)with
 |some x,some y=>if 10000<d∨10000<g then none else afD x y d g
 |_,_=>none
def aaB(ts:List (Int×Int)):Prop:=ts.length<=8∧∀t∈ts,2<=t.1∧t.1<128∧t.2.natAbs<9223372036854775808
def Ui:Q->List Q->List Q->Q
 |k,x::a,y::b=>Ui (if y.1=0 then k else ah6 x y) a b
 |k,_,_=>k
def Uh(k:Q):List Q->List Q->Bool
 |x::a,y::b=>decide (tX k y=x)&&Uh k a b
 |_,_=>true
def agc(tx ty:List (Int×Int))(d g:Int):Nat->Nat->Option Int
 |0,_=>none
 | r+1,n=>match afD (eA n tx (0,0)) (eA n ty (0,0)) d g with
  |some q=>some q
  |none=>agc tx ty d g r (n*2)
def agd(p:LiQ)(a b:List Q)(q:Int):Prop:=
 (Uh (Ui (0,1) a b) a b=true∧q=(Ui (0,1) a b).1/((Ui (0,1) a b).2:Int)) ∨
 (Uh (Ui (0,1) a b) a b=false∧aaB (tq p a)∧aaB (tq p b)∧pX 1 a<9223372036854775808∧pX 1 b<9223372036854775808 ∧
  ((afC (tq p a) (tq p b) (pX 1 a) (pX 1 b)=some q∧-9223372036854775808<q∧q<9223372036854775808) ∨
   (afC (tq p a) (tq p b) (pX 1 a) (pX 1 b)=none∧HK (tq p a)∧HK (tq p b)∧(∀i,i<6->(eA (64*2^i) (tq p b) (0,0)).1<=(eA (64*2^i) (tq p b) (0,0)).2)∧agc (tq p a) (tq p b) (pX 1 a) (pX 1 b) 6 64=some q)))
def ahQ(p:LiQ)(a b:List Q):List Q:=qX p.length [a,b] [(2,1),(1,1)]
def ahP(p:LiQ)(b:List Q):List Q:=qX p.length [b] [(2,1)]
def Ha(p:LiQ)(n:Nat):List Q:=qX p.length [abd p.length] [(1,n)]
def Nu(p:LiQ)(n:Nat)(q:Int):List Q:=qX p.length [Ha p n] [(q,1)]
def PZ(p:LiQ)(n:Nat)(q:Int)(s:List Q):List Q:=qX p.length [Nu p n q,s] [(1,1),(-1,1)]
structure agD(p:LiQ)(n:Nat)(r:LiQ)(q:Int):Prop where
 hp:pcB p=0
 hN:p.length<=20
 hl:0<p.length
 h0:0<n
 h1:n<=10000
 lr:r.length=p.length
 sr:smR r=true
 st:okS (Ha p n)
 of:okS (ofQ r)
 ne:tq p (Ha p n)≠[]
 fl:agd p (ahQ p (ofQ r) (Ha p n)) (ahP p (Ha p n)) q
 q1 : -1000000000000000000<q
 q2:q<1000000000000000000
 ti:okS (Nu p n q)
 er:okS (PZ p n q (ofQ r))
def YM(p:LiQ)(n:Nat)(r:LiQ)(q z:Int):List Q:=YY p (PZ p n q (ofQ r)) z
structure aiS(p r:LiQ)(lim:Nat)(qf zf:Nat->Int)(ls:Nat->Nat->Bool):Prop where
 er:∀n,1<=n->n<=lim->agD p n r (qf n)
 sg:∀n,1<=n->n<=lim->K3 p (PZ p n (qf n) (ofQ r)) (zf n)∧-1<=zf n∧zf n<=1
 ok:∀n,1<=n->n<=lim->okS (YM p n r (qf n) (zf n))
 cm:∀n m,1<=m->m<n->n<=lim->∃z,K3 p (dfS p (YM p n r (qf n) (zf n)) (YM p m r (qf m) (zf m))) z∧decide (z<0)=ls n m
def bE:LiQ->LiQ->Int
 |a::r,b::t=>a*b+bE r t
 |_,_=>0
structure J6 where
 w:LiQ
 s:Int
 u:LiQ
def lgI(n:Nat)(p:Int):Int:=(lg p n:Int)
def c6P:LiQ:=[2,3,5]
def rp(b:Nat)(x:Q)(a:Int):Prop:=okQ x∧x.1*(b:Int)=a*(x.2:Int)
theorem IS{b:Nat}{a:Int}(h:rp b x a):x.2∣b:=by
 have h1:x.1.natAbs*b=a.natAbs*x.2:=by
  have:=congrArg Int.natAbs h.2;simpa[Y2]using this
 have h2:x.2∣x.1.natAbs*b:=⟨a.natAbs,by rw[h1,Zt]⟩;exact Nat.Coprime.dvd_of_dvd_mul_left (Nat.Coprime.symm h.1.2) h2
theorem TM{b:Nat}{a:Int}(hb:0<b)(h:rp b x a):x.1.natAbs*(b/x.2)=a.natAbs:=by
 obtain⟨m,hm⟩:=IS h
 have h1:x.1.natAbs*b=a.natAbs*x.2:=by
  have:=congrArg Int.natAbs h.2;simpa[Y2]using this
 have p:=h.1.1;rw[hm,Xo _ p];refine Nat.eq_of_mul_eq_mul_right p ?_;rw[<-h1,hm,Nat.mul_assoc,Zt m]
theorem afz{b:Nat}{a:Int}(hb:0<b)(h:rp b x a):x.1.natAbs<=a.natAbs∧x.2<=b:=by have h1:=TM hb h;have h2:=Wv hb (IS h);have h3:1<=b/x.2:=(W8 h.1.1).2 aa;refine⟨?_,h2⟩;rw[<-h1];exact Y5 _ h3
def bdL(b B:Nat)(s:List Q):Prop:=∀x∈s,∃a:Int,rp b x a∧a.natAbs<=B
theorem YI{b B:Nat}{s:List Q}(hb:0<b)(h:bdL b B s)(h1:b<1000000000000000000000000000000)(h2:B<1000000000000000000000000000000):okS s:=fun x hx=>by
 obtain⟨a,r1,r2⟩:=h x hx;obtain⟨l1,l2⟩:=afz hb r1;exact⟨r1.1,cN (d:=30) (by show _<10^30;omega) ae,cN (d:=30) (by show _<10^30;omega) ae⟩
def in6(p:LiQ):Prop:=p.Nodup∧p.length<=6∧∀x∈p,x∈c6P
structure aiT(p:LiQ)(n:Nat)(r:LiQ)(q:Int):Prop where
 hp:pcB p=0
 hN:p.length<=20
 hl:0<p.length
 h0:0<n
 h1:n<=10000
 lr:r.length=p.length
 sr:smR r=true
 st:okS (Ha p n)
 of:okS (ofQ r)
 q1 : -1000000000000000000<q
 q2:q<1000000000000000000
 ti:okS (Nu p n q)
 er:okS (PZ p n q (ofQ r))
def ah7:LLQ:=[[2,3,5],[2,3],[2,3,5,7],[2,3,7],[3,5,7],[2],[2,5,7],[2,3,11],[2,3,5,13],[2,3,7,11]]
abbrev Rw:=LiQ
structure aiV(p:LiQ)(n:Nat)(l:List Rw)(qf:Rw->Int):Prop where
 hN:l.length<=60
 hE:∀r∈l,agD p n r (qf r)
def p13(k:Nat):LiQ:=ah7.getD (k%10) []
def dI(z:Int):LiQ->LiQ->LiQ
 |a::r,c::t=>(a+z*c)::dI z r t
 |_,_=>[]
theorem hQ(z:Int):∀{r t:LiQ},r.length=t.length->(dI z r t).length=r.length
 |[],[],_=>rfl
 |a::r,c::t,h=>by simp[dI,hQ z (r:=r) (t:=t) (by simpa using h)]
 |[],_::_,h=>by simp at h
 |_::_,[],h=>by simp at h
def L5(p:LiQ):LiQ:=p.map (lgI 2048)
end Go.Vm
