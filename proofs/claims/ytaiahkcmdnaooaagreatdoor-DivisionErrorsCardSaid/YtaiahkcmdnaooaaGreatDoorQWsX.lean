/- Signed integers as texts: small ones read, signs, negatives. -/
import Derived.Test.YtaiahkcmdnaooaaGreatDoorQCkBits
import Derived.Test.YtaiahkcmdnaooaaGreatDoorQCkShift
import Derived.Test.YtaiahkcmdnaooaaGreatDoorQT
import Derived.Test.YtaiahkcmdnaooaaGreatDoorQTSmB
set_option linter.unusedVariables false
set_option linter.unusedSimpArgs false
namespace Go.Vm
open Go Go.Am Go.Big
theorem PD {n w:Nat} (h1:1<=w) (h2:w<=17) (hn:n<10 ^ w):CP Y F.fc [S (45::cL n w)] (.tup [I (-(n:Int)),.d (.pl .nilIface)]):=by
 refine pI ?_;have hl:=AC w n;have hlt:=yE w n;have hh:=z8 w n hn;have he:=OY n w;have hD:=Ex w n;have hn17:n<10 ^ 17:=Z1 hn (Z4 ae h2);simp only [Nat.reducePow] at hn17;generalize cL n w=L at *;generalize wQ n w=l at *;have hlen:L.length=w:=by rw [hD];simpa using hl
 have hi:ixS (S (45::L)) (.d (.int .i64 0))=some (.d (.int .u8 45)):=by simp [ixS]
 have hlw:ko (S (45::L))=some (I (w+1:Nat)):=by rw [Ej];simp [hlen]
 have hsl:slS (S (45::L)) (some (.d (.int .i64 1))) none=some (S L):=by
  have:(1:Int)<=(L.length:Int)+1:=aa;simp [slS,boV,this]
 have hl2:ko (S L)=some (I w):=by rw [Ej,hlen]
 simp (disch:=try exact ac)[fc,hlw,hi]
 have hcv:∀ (k:V->Hp->Prop),cvB (S L) [] k=k (lst f8 l) []:=by
  intro k
  have:V.d (.sl L.length (L.map fun b=>.int .u8 b.toNat))=lst f8 l:=by
   unfold lst;rw [hlen,hl,<- he];rfl
  simp only [cvB,this]
 refine fk (l:=[S L]) (h:=[]) (fun q=>?_) ?_
 ·simp (disch:=try exact ac)[hsl,hl2]
 show cvB (S L) [] _
 rw [hcv];simp (disch:=try exact ac)[];refine lo (EI _ _ rfl l [] 0 aR hlt af ?_);simp (disch:=try exact ac)[hi,hh];refine fk (l:=[I (-(n:Int))]) (h:=[]) (fun q=>?_) ?_
 ·simp (disch:=try exact ac)[hh]
 exact ⟨[],by simp [bY,aH,norm]⟩
theorem PC {n w:Nat} (h1:1<=w) (h2:w<=17) (hn:n<10 ^ w):CP Y F.strconv_Atoi [S (45::cL n w)] (.tup [I (-(n:Int)),.d (.pl .nilIface)]):=by
 refine rr ?_;simp (disch:=try exact ac)[strconv_Atoi];refine cd (PD h1 h2 hn) ?_;simp (disch:=try exact ac)[D4];exact ⟨[],by simp [bY,aH,norm]⟩
def sdg (z:Int):Nat:=ndg z.natAbs+if z<0 then 1 else 0
theorem Gu (z:Int):ko (S (itoa z))=some (I (sdg z)):=by
 rw [Ej];unfold itoa sdg;split
 ·simp [ah,aV]
 ·simp [ah,aV]
theorem Hh {z:Int} (h:sdg z<=18):CP Y F.strconv_Atoi [S (itoa z)] (.tup [I z,.d (.pl .nilIface)]):=by
 unfold sdg at h;by_cases hz:z<0
 ·rw [if_pos hz] at h;have:=PC (n:=z.natAbs) (w:=ndg z.natAbs) (iT _) aa (b6 _);rw [show (-(z.natAbs:Int))=z by omega] at this;unfold itoa;rw [if_pos hz];exact this
 ·rw [if_neg hz] at h;have:=EH (n:=z.natAbs) (w:=ndg z.natAbs) (iT _) aa (b6 _);rw [show ((z.natAbs:Nat):Int)=z by omega] at this;unfold itoa;rw [if_neg hz];exact this
theorem oj (z:Int) (w:Nat) (hw:w<=18):CP Y F.bj [S (itoa z),I w] (if sdg z<=w then .tup [I z,B true] else .tup [I 0,B false]):=by
 refine nR ?_;have la:=Gu z;by_cases h:(w:Int)<sdg z
 ·rw [if_neg aa];simp (disch:=try exact ac)[bj,la,h];exact av rfl rfl
 ·rw [if_pos aa];have ap:=Hh (z:=z) aa;have en:biF .eql (.d (.pl .nilIface)) (.d (.pl .nilIface))=some (.d (.bool true)):=rfl;simp (disch:=try exact ac)[bj,la,h];refine cd (args:=[S (itoa z)]) ap ?_;simp (disch:=try exact ac)[en];exact av rfl rfl
theorem zP (z:Int):CP Y F.ew [S (itoa z)] (if sdg z<=9 then .tup [I z,B true] else .tup [I 0,B false]):=by
 refine vg ?_;have la:=Gu z;by_cases h:(9:Int)<sdg z
 ·rw [if_neg aa];simp (disch:=try exact ac)[ew,la,h];exact av rfl rfl
 ·rw [if_pos aa];have ap:=Hh (z:=z) aa;have en:biF .eql (.d (.pl .nilIface)) (.d (.pl .nilIface))=some (.d (.bool true)):=rfl;simp (disch:=try exact ac)[ew,la,h];refine cd (args:=[S (itoa z)]) ap ?_;simp (disch:=try exact ac)[en];exact av rfl rfl
theorem u5 (z:Int):rdN (itoa z)=decide (z<0):=by
 unfold itoa;split
 ·rename_i h;simp [rdN,h]
 ·rename_i h;have:=oo z.natAbs;unfold rdN;rw [decide_eq_false this,decide_eq_false h]
theorem nM (z:Int):CP Y F.aN [S (itoa z)] (.tup [B (decide (z<0)),S (ah z.natAbs)]):=by
 have h:=rz (itoa z);rw [u5,pG] at h;exact h
theorem mA {a b:Nat} (h:ah a=ah b):a=b:=by
 have:=congrArg (dR 0) h
 rwa [cV,cV] at this
theorem u7 {a b:Int} (h:itoa a=itoa b):a=b:=by
 have h1:=congrArg rdT h;have h2:=congrArg rdN h;rw [pG,pG] at h1;rw [u5,u5] at h2;have h3:=mA h1;have h4:(a<0)↔(b<0):=by simpa using h2
 omega
theorem jr {n:Nat}:ah n=[48]↔n=0:=by
 constructor
 ·intro h;exact mA (a:=n) (b:=0) (h.trans dG.symm)
 ·rintro rfl;exact dG
def sg (b:Bool) (n:Nat):Int:=if b then -(n:Int) else n
theorem jO (b:Bool) {n:Nat} (hn9:ndg n<1000000):CP Y F.bK [B b,S (ah n)] (S (itoa (sg b n))):=by
 refine ul ?_;cases b with
 | false=>
  have:itoa (sg false n)=ah n:=by simp [sg,itoa]
  rw [this];simp (disch:=try exact ac)[bK] <;> exact dh rfl
 | true=>
  by_cases hn:n=0
  ·subst hn;have e0:itoa (sg true 0)=[48]:=dG;simp (disch:=try exact ac)[bK,dG] <;> exact dh e0.symm
  ·have h0:¬ ah n=[48]:=fun h=>hn (jr.1 h)
   have:itoa (sg true n)=45::ah n:=by
    unfold itoa sg;rw [if_pos rfl,if_pos aa];simp
   rw [this];have hl:(ah n).length=ndg n:=aV _ _;have ha:biS .add (.d (.str [45])) (S (ah n))=some (S (45::ah n)):=Rl [45] (ah n) (by rw [hl];simp;omega);simp (disch:=try exact ac)[bK,h0,ha] <;> exact dh rfl
theorem sN {z:Int} (hz:ndg z.natAbs<1000000):CP Y F.gQ [S (itoa z)] (S (itoa (-z))):=by
 refine EU ?_;simp (disch:=try exact ac)[gQ];refine cd (nM z) ?_;simp (disch:=try exact ac)[];have:=jO (!decide (z<0)) hz
 have e:sg (!decide (z<0)) z.natAbs = -z:=by
  unfold sg;by_cases h:z<0
  ·simp [h];omega
  ·simp [h];omega
 rw [e] at this;refine cd this ?_;exact dh rfl
def bF (n:Nat):Nat:=(dig Z n).length
theorem yF {n:Nat}:bF n=ndg n / 9+1∨bF n+1=ndg n / 9+1:=by
 unfold bF;have h1:(dig Z n).length<=ndg n / 9+1:=(lN au).2 (Z1 (b6 n) (by rw [vL];exact Z4 ae aa))
 have h2:ndg n<=9*(dig Z n).length∨n=0:=by
  rcases Zk n with h | h
  ·omega
  ·left;have h3:n<Z ^ (dig Z n).length:=(lN au).1 (Z7 _);rw [vL] at h3;refine bi h3 ?_;rcases Zk (dig Z n).length with h4 | h4
   ·grind
   ·omega
 rcases h2 with h2 | rfl
 ·omega
 ·have:ndg 0=1:=aG;omega
theorem Ed (n:Nat):n<Z ^ bF n:=(lN au).1 (Z7 _)
theorem vi (n:Nat):aY (bF n) n=dig Z n:=by
 have:=j5 (Ed n)
 rwa [Zw (by rw [cr];exact Z7 _)] at this
theorem vh {n c:Nat} (h:bF n+1=c):aY c n=dig Z n++[0]:=by
 rw [<- h,wF (Ed n),vi]
theorem Kw {s t n c:Nat} {h:Hp} {q:V->Hp->Prop} {u:PU q} (hst:s≠t) (hg:h[s]? = some (1,.data 1 ((aY c n).map u6) true false)) (ht:h[t]? = some (0,.none)) (hL:bF n=c∨bF n+1=c) (hc:c<1000000)
  (hq:∀ s' e' ex h',h'.length=h.length->h'[s']? = some (e',.data 1 ((dig Z n++[0]).map u6) ex false)->(s'=s∨s'=t)->(∀ j,j≠s'->h'[j]? = h[j]?)->q (.ref s' e' 0 (bF n+1) (bF n+1) (bF n+1)) h') :
  rh (apV false t 1 8 (.ref s 1 0 (bF n) c c) (.d (.sl 1 [u6 0])) h) q u:=by
 have hl:=bB hg;have hl2:=bB ht;rcases hL with hL | hL
 ·subst hL;rw [vi] at hg;refine Kv hg ht rfl aa ?_;exact hq t 1 false _ af (by grind) (.inr rfl) (fun j hj=>by rw [List.getElem?_set_ne (Ne.symm hj)])
 ·rw [vh hL] at hg;have hlen:(dig Z n).length=bF n:=rfl;refine IS (x:=0) hg (by grind) aa ?_;rw [<- hL];refine hq s 1 true _ af ?_ (.inl rfl) (fun j hj=>by rw [List.getElem?_set_ne (Ne.symm hj)])
  have e1:(dig Z n++[0]).take (bF n)++[0]++(dig Z n++[0]).drop (bF n+1)=dig Z n++[0]:=by
   rw [<- hlen,Wq,Zd af,Wx]
  grind
theorem Kt {s t n c k:Nat} {h:Hp} {q:V->Hp->Prop} {u:PU q} (hst:s≠t) (hg:h[s]? = some (1,.data 1 ((aY c n).map u6) true false)) (ht:h[t]? = some (0,.none)) (hL:bF n=c∨bF n+1=c) (hc:c+k<1000000)
  (hq:∀ t1 s' h',h'.length=h.length->(s'=s∨s'=t)->(∀ j,j≠s'->h'[j]? = h[j]?)->(∃ (e':Nat) (l:List Nat) (ex:Bool),h'[s']? = some (e',.data 1 (l.map u6) ex false)) ->
   (∀ P:Hp->Prop,(∀ g,P g->g[s']? = h'[s']?)->RdS P t1 (dig Z n++List.replicate k 0))->q t1 h') :
  rh (apZ false t 1 8 [.int .u64 0] (.ref s 1 0 (bF n) c c) (I (k:Nat)) h) q u:=by
 have hl:=bB hg;have hl2:=bB ht;have hlen:(dig Z n).length=bF n:=rfl;unfold rh apZ;simp only;rw [if_pos ⟨aa,aa⟩];unfold apC;simp only [Int.toNat_natCast]
 have rdOf:∀ {s' e' len cap tot:Nat} {l:List Nat} {ex:Bool} {h':Hp},h'[s']? = some (e',.data 1 (l.map u6) ex false)->tot=l.length->len<=tot->l.take len=dig Z n++List.replicate k 0 ->
   ∀ P:Hp->Prop,(∀ g,P g->g[s']? = h'[s']?)->RdS P (.ref s' e' 0 len cap tot) (dig Z n++List.replicate k 0):=by
  intro s' e' len cap tot l ex h' hg' htot hle htk P hP;refine ⟨?_,fun g i hg2 hi=>?_⟩
  ·have:(dig Z n++List.replicate k 0).length=len:=by rw [<- htk,Zn];omega
   simp_all
  ·have:=(yL (h:=g) (cap:=cap) ((hP g hg2).trans hg') htot hle).2 [] i (by grind)
   grind
 by_cases hk:k=0
 ·rw [if_pos hk,if_pos aa];subst hk;refine hq _ s h rfl (.inl rfl) (fun _ _=>rfl) ⟨_,_,_,hg⟩ ?_;refine rdOf hg (cr ..).symm aa ?_;rw [List.replicate_zero,Wx];rcases hL with hL | hL
  ·rw [<- hL,vi,<- hlen,Xl]
  ·rw [vh hL,<- hlen,Wq]
 ·rw [if_neg hk,Qa];simp only [dM hg];rw [if_pos ⟨trivial,by simp [cr],aa,by simp [cr],af⟩];by_cases hin:bF n+k<=c
  ·rw [if_pos hin];have hk1:k=1:=aa;subst hk1;have hL2:bF n+1=c:=aa;simp only [Bool.or_self,Y9,if_false,du]
   have e1:((aY c n).map u6).take (0+bF n*1)++(List.replicate 1 0).map u6++((aY c n).map u6).drop (0+(bF n+1)*1)=(dig Z n++[0]).map u6:=by
    rw [vh hL2,Zj,Zj,X8,X8,<- hlen];simp [<- List.map_take,<- List.map_drop]
   rw [e1];refine hq _ s _ af (.inl rfl) (fun j hj=>by rw [List.getElem?_set_ne (Ne.symm hj)]) ⟨1,dig Z n++[0],true,by grind⟩ ?_;refine rdOf (l:=dig Z n++[0]) (ex:=true) (by grind) (by grind) aa ?_
   grind
  ·rw [if_neg hin,if_pos aa];simp only [if_true,new,ht]
   have e1:(((aY c n).map u6).drop 0).take (bF n*1)++(List.replicate k 0).map u6=(dig Z n++List.replicate k 0).map u6:=by
    rw [Yo,X8,<- List.map_take,List.map_append];congr 2;rcases hL with hL | hL
    ·rw [<- hL,vi,<- hlen,Xl]
    ·rw [vh hL,<- hlen,Wq]
   rw [e1];have e2:bF n*1+((List.replicate k 0).map u6).length=bF n+k:=af;rw [e2];refine hq _ t _ af (.inr rfl) (fun j hj=>by rw [List.getElem?_set_ne (Ne.symm hj)]) ⟨1,dig Z n++List.replicate k 0,false,by grind⟩ ?_;refine rdOf (l:=dig Z n++List.replicate k 0) (ex:=false) (by grind) (by grind) aa ?_
   grind [Zw]
def NV (h:Hp):Prop:=∀ (j:Nat) (x:Nat × Bk),h[j]? = some x->∀ b,dO b x.2=true
theorem NV.all {h:Hp} (hn:NV h) (b:Nat):(h.all fun x=>dO b x.2)=true:=by
 rw [Zv];intro x hx;obtain ⟨j,hj⟩:=Xd.1 hx;exact hn j x hj b
theorem NV.upd {h h':Hp} (hn:NV h) {s e:Nat} {l:List Nat} {ex fr:Bool} (hs:h'[s]? = some (e,.data 1 (l.map u6) ex fr)) (ho:∀ j,j≠s->h'[j]? = h[j]?):NV h':=by
 intro j x hj b;by_cases e1:j=s
 ·subst e1;rw [hs] at hj;cases hj;rfl
 ·rw [ho j e1] at hj;exact hn j x hj b
theorem MF {α:Type} {l:List α} {i:Nat} {x:α} (h:l[i]? = some x):l.set i x=l:=by
 apply X6;intro j;by_cases e:i=j
 ·grind
 ·rw [List.getElem?_set_ne e]
theorem Jk {h:Hp} {s e:Nat} {ex:Bool} {l:List Nat} (hs:h[s]? = some (e,.data 1 (l.map u6) ex false)):sP h s e ex l=h:=MF hs
theorem Cb {h:Hp} {s e n m:Nat} {ex:Bool} {L:List Nat} {w:V} (hn:NV h) (hlt:s<h.length) (h3:L.length=n) (b1:val Z L=m) (b2:aD Z L) (hm:n<1000000) (kk:V->V) (hkk:∀ h':Hp,out w (kk (S (ah m))) h') {sl:Nat} :
  cai (CX Y).i (sP h s e ex L) (V.fn F.ay [] []) [.ref s e 0 n n n] sl fun v22 h=>
    cal (CX Y).p h (V.fn F.aJ [] []) [v22] fun v23 h=>out w (kk v23) h:=by
 have nv:NV (sP h s e ex L):=hn.upd (og hlt) (fun j hj=>by grind [sP]);have tr:=pu (h:=sP h s e ex L) (nv.all _) (s:=s) (e:=e) (ex:=ex) (fr:=false) (og hlt) h3.symm (len:=n) (cap:=n) (Z7 _) aa (Z7 _);have ht:fD (L.take n)=dig Z m:=by rw [Zw aa,<- b1,nI au b2]
 rw [ht] at tr;refine lV tr ?_ af;have lt:m<Z ^ n:=by rw [<- b1,<- h3];exact gO bg b2
 have hl:(dig Z m).length<=n:=(lN au).2 lt;have sM:=rC (h:=sP h s e ex L) (s:=s) (e:=e) (ex:=ex) (fr:=false) (og hlt) h3.symm (len:=(dig Z m).length) (cap:=n) hl (Z7 _)
 have ht2:L.take (dig Z m).length=dig Z m:=by
  have e:fD L=dig Z m:=by rw [<- ht,Zw aa]
  obtain ⟨z,hz⟩:=B9 L;rw [e] at hz;rw [hz];exact Wq ..
 rw [ht2] at sM;refine cdz (u:=.mk) (by simp only [aH,sM];rfl) (sw (n:=m) aa) ?_
 grind
theorem AE {a b:Nat} (ha:ndg a<1000000) (hb:ndg b<1000000):CP Y F.fh [S (ah a),S (ah b)] (S (ah (a+b))):=by
 refine BP ?_;have bo:=yH a b;by_cases h18:ndg a<=18∧ndg b<=18
 ·rw [if_pos h18] at bo;have g3:10 ^ ndg a<=10 ^ 18:=Z4 ae h18.1;have g4:10 ^ ndg b<=10 ^ 18:=Z4 ae h18.2;have b1:a<1000000000000000000:=Z1 (b6 a) g3;have b2:b<1000000000000000000:=Z1 (b6 b) g4;simp (disch:=try exact ac)[fh];refine cd bo ?_;obtain ⟨m,hm⟩:∃ m,a+b=m:=⟨_,rfl⟩
  have em:(a:Int)+(b:Int)=(m:Int):=aa;rw [hm];simp (disch:=try exact ac)[em];refine cd (wt (n:=m) aa) ?_;exact dh rfl
 rw [if_neg h18] at bo;obtain ⟨ca,hca⟩:∃ ca,ca=ndg a / 9+1:=⟨_,rfl⟩;obtain ⟨cb,hcb⟩:∃ cb,cb=ndg b / 9+1:=⟨_,rfl⟩;have cA:=pd (h:=[(0,.none),(0,.none),(0,.none),(0,.none),(0,.none),(0,.none)]) rfl (n:=a) aa hca;have cB:=pd (h:=[(1,.data 1 ((aY ca a).map u6) true false),(0,.none),(0,.none),(0,.none),(0,.none),(0,.none)]) rfl (n:=b) aa hcb
 have LA:bF a=ca∨bF a+1=ca:=by rw [hca];exact yF
 have LB:bF b=cb∨bF b+1=cb:=by rw [hcb];exact yF
 have hli:∀ h:Hp,eY 1 [D.int .u64 0] [(0,V.d (D.int .u64 0))] h=some ([u6 0],h):=fun h=>by rfl
 have main:∀ (p q cp cq sp sq:Nat) (h:Hp),p+q=a+b->bF q<=bF p->cp<200000->cq<200000->(bF p=cp∨bF p+1=cp)->(bF q=cq∨bF q+1=cq)->sp<2->sq<2->sp≠sq->h.length=6->NV h ->
   h[sp]? = some (1,.data 1 ((aY cp p).map u6) true false)->h[sq]? = some (1,.data 1 ((aY cq q).map u6) true false)->h[2]? = some (0,.none)->h[3]? = some (0,.none) ->
   apV false 2 1 8 (.ref sp 1 0 (bF p) cp cp) (.d (.sl 1 [u6 0])) h fun v15 h=>
   bnd (bq v15) fun v16=>
   bnd (biI .sub v16 (.d (.int .i64 1))) fun v17=>
   bnd (bq (.ref sq 1 0 (bF q) cq cq)) fun v18=>
   bnd (biI .sub v17 v18) fun v19=>
   apZ false 3 1 8 [.int .u64 0] (.ref sq 1 0 (bF q) cq cq) v19 h fun v20 h=>
   cai (CX Y).i h (.fn F.bO [] []) [v15,v20,(.d (.int .i64 0))] 4 fun v21 h=>
   cai (CX Y).i h (.fn F.ay [] []) [v15] 5 fun v22 h=>
   cal (CX Y).p h (.fn F.aJ [] []) [v22] fun v23 h=>
   out (S (ah (a+b))) v23 h:=by
  intro p q cp cq sp sq h hpq hle hcp hcq LP LQ hsp hsq hne hlen hnv gp gq g2 g3;refine Kw (u:=.mk) (t:=2) aa gp g2 LP aa fun s' e' ex h1 l1 gs' hs' o1=>?_
  obtain ⟨k,hk⟩:∃ k,k=bF p-bF q:=⟨_,rfl⟩;have e1:(bF p:Int)+1-1-(bF q:Int)=(k:Int):=aa;have hr1:bq (.ref s' e' 0 (bF p+1) (bF p+1) (bF p+1))=some (I (bF p+1:Nat)):=rfl;have hr2:bq (.ref sq 1 0 (bF q) cq cq)=some (I (bF q:Nat)):=rfl
  have hb1:biI .sub (I ((bF p+1:Nat):Int)) (.d (.int .i64 1))=some (I (bF p)):=by
   rw [qy,show (((bF p+1:Nat):Int)-1)=(bF p:Int) by omega,pn aa aa]
  have hb2:biI .sub (I (bF p:Int)) (I (bF q:Int))=some (I k):=by
   rw [qy,show ((bF p:Int)-(bF q:Int))=(k:Int) by omega,pn aa aa]
  simp only [hr1,hr2,hb1,hb2,bnd];have nv1:=hnv.upd gs' o1;have hqs:sq≠s':=by rcases hs' with rfl | rfl <;> omega
  have h3s:3≠s':=by rcases hs' with rfl | rfl <;> omega
  refine Kt (u:=.mk) (t:=3) aa ((o1 sq hqs).trans gq) ((o1 3 h3s).trans g3) LQ aa fun t1 s2 h2 l2 hs2 o2 ⟨e2,l2',ex2,g2'⟩ rd=>?_
  have nv2:=nv1.upd g2' o2;have hss:s'≠s2:=by rcases hs2 with rfl | rfl <;> omega
  have gs2:h2[s']? = some (e',.data 1 ((dig Z p++[0]).map u6) ex false):=(o2 s' hss).trans gs';have lt2:s'<h2.length:=bB gs2;have hdl:(dig Z q++List.replicate k 0).length=bF p:=by simp only [Zg,Y8];show bF q+k=_;omega
  have sD:aD Z (dig Z q++List.replicate k 0):=nO (bL au q) (mi _);have vD:val Z (dig Z q++List.replicate k 0)=q:=by rw [kU,fF au]
  have rdS:=rd (fun t=>∃ l,t=sP h2 s' e' ex l) (fun g ⟨l,hg⟩=>by grind [sP]);obtain ⟨c1,c2,c3⟩:=Pz (n:=bF p) rfl hdl (bL au p) sD (fF au p) vD;have bk:=Hf (at_:=0) (tot:=bF p+1) (l:=dig Z p++[0]) (ex:=ex) (e:=e') (s:=s') (h:=h2) (nv2.all _) lt2 rdS sD aa aa (by simp [bF]) (nO (bL au p) (mi 1))
  rw [Jk gs2] at bk;refine lV bk ?_ af;rw [hpq] at c1;exact Cb nv2 lt2 c3 c1 c2 aa (fun v=>v) (fun _=>dh rfl)
 simp (disch:=try exact ac)[fh];refine cd bo ?_;simp (disch:=try exact ac)[];refine kg (gL (e:=0) (b:=.none) cA rfl ?_);rw [List.length_map,cr];simp (disch:=try exact ac)[];refine kg (gL (e:=0) (b:=.none) cB rfl ?_);rw [List.length_map,cr]
 have nv:NV [(1,.data 1 ((aY ca a).map u6) true false),(1,.data 1 ((aY cb b).map u6) true false),(0,.none),(0,.none),(0,.none),(0,.none)]:=by
  intro j x hj b';rcases Xd.2 ⟨j,hj⟩ with hm;simp only [Zr,Y6,or_false] at hm;rcases hm with rfl | rfl | rfl | rfl | rfl | rfl <;> rfl
 by_cases g1:((dig Z a).length:Int)<((dig Z b).length:Int)
 ·simp (disch:=try exact ac)[g1];refine aC ?_;simp (disch:=try exact ac)[hli];exact main b a cb ca 1 0 _ aa (by grind [bF]) aa aa LB LA aa aa aa rfl nv rfl rfl rfl rfl
 ·simp (disch:=try exact ac)[g1];refine aC ?_;simp (disch:=try exact ac)[hli];exact main a b ca cb 0 1 _ rfl (by grind [bF]) aa aa LA LB aa aa aa rfl nv rfl rfl rfl rfl
theorem Cz:∀ (s t:List UInt8) (c:Nat),s.length=t.length->s.all mC=true->t.all mC=true->Op.bytesLess s t=decide (dR c s<dR c t)
 | [],[],c,_,_,_=>by simp [Op.bytesLess]
 | x::s,y::t,c,hl,hs,ht=>by
  simp only [List.length_cons,Nat.add_right_cancel_iff] at hl;simp only [List.all_cons,Z8] at hs ht;have hx:=jh.1 hs.1;have hy:=jh.1 ht.1
  have key:∀ (s t:List UInt8) (u v:Nat),s.length=t.length->s.all mC=true->u<v->dR u s<dR v t:=by
   intro s t u v hl hs h;have h1:=pK s u hs;have h2:=Ab t v;rw [<- hl] at h2;have h3:(u+1)*10 ^ s.length<=v*10 ^ s.length:=Z0 _ h;omega
  rw [ik,ik];have ex:x<y↔x.toNat<y.toNat:=UInt8.lt_iff_toNat_lt;have ey:y<x↔y.toNat<x.toNat:=UInt8.lt_iff_toNat_lt;rcases Nat.lt_trichotomy x.toNat y.toNat with h | h | h
  ·have:=key s t (c*10+(x.toNat-48)) (c*10+(y.toNat-48)) hl hs.2 aa
   grind [Op.bytesLess]
  ·have e:x=y:=UInt8.toNat_inj.1 h;subst e;rw [<- Cz s t _ hl hs.2 ht.2];simp [Op.bytesLess]
  ·have:=key t s (c*10+(y.toNat-48)) (c*10+(x.toNat-48)) hl.symm ht.2 aa;rw [decide_eq_false aa]
   grind [Op.bytesLess]
theorem CF (n:Nat):(ah n).all mC=true:=rY _ _
theorem Cy {a b:Nat} (h:ndg a=ndg b):Op.bytesLess (ah a) (ah b)=decide (a<b):=by
 rw [Cz (ah a) (ah b) 0 (by rw [ah,ah,aV,aV,h]) (CF _) (CF _),cV,cV]
theorem NH {a b:Nat} (h:ndg a<ndg b):a<b:=by
 rcases Zl a b with g | g
 ·exact g
 ·have:=cS g;omega
theorem AJ {a b:Nat} (h:a<b):Big.cmp a b = -1:=if_pos h
theorem AK {a b:Nat} (h:b<a):Big.cmp a b=1:=(if_neg aa).trans (if_pos h)
theorem cmp_eq {a:Nat}:Big.cmp a a=0:=(if_neg aa).trans (if_neg aa)
theorem sW {a b:Nat} (ha:ndg a<1000000) (hb:ndg b<1000000):CP Y F.bI [S (ah a),S (ah b)] (I (Big.cmp a b)):=by
 refine vA ?_;have la:=jq a;have lb:=jq b;by_cases hl:ndg a=ndg b
 ·have h1:=Cy hl;have h2:=Cy hl.symm;have e1:biS .lss (S (ah a)) (S (ah b))=some (.d (.bool (decide (a<b)))):=by rw [<- h1];rfl
  have e2:biS .gtr (S (ah a)) (S (ah b))=some (.d (.bool (decide (b<a)))):=by
   have h3:(ah a == ah b)=decide (a=b):=by
    rw [Yr];simp only [beq_iff_eq,decide_eq_true_eq];exact ⟨mA,fun h=>by rw [h]⟩
   have h4:decide (b<a) = !(decide (a<b) || decide (a=b)):=by
    rw [Yr];simp only [decide_eq_true_eq,Zb,Bool.or_eq_false_iff,decide_eq_false_iff_not];omega
   rw [h4,<- h1,<- h3];rfl
  rw [hl] at la;by_cases g1:a<b
  ·simp (disch:=try exact ac)[bI,la,lb,e1,e2,g1]
   grind [ci,AJ]
  ·by_cases g2:b<a
   ·simp (disch:=try exact ac)[bI,la,lb,e1,e2,g1,g2]
    grind [ci,AK]
   ·simp (disch:=try exact ac)[bI,la,lb,e1,e2,g1,g2];have:a=b:=aa
    grind [ci,cmp_eq]
 ·have hne:¬ ((ndg a:Int)=(ndg b:Int)):=aa;rcases Zl (ndg a) (ndg b) with h | h
  ·have h3:=NH h;have m1:mxI true [.d (.int .i64 (-1)),I ((ndg a:Int)-ndg b)]=some (I (-1)):=by simp [mxI,mx2];omega
   have m2:mxI false [.d (.int .i64 1),I (-1)]=some (I (-1)):=rfl;simp (disch:=try exact ac)[bI,la,lb,hne,m1,m2]
   grind [ci,AJ]
  ·have h3:b<a:=NH aa;have m1:mxI true [.d (.int .i64 (-1)),I ((ndg a:Int)-ndg b)]=some (I ((ndg a:Int)-ndg b)):=by simp [mxI,mx2];omega
   have m2:mxI false [.d (.int .i64 1),I ((ndg a:Int)-ndg b)]=some (I 1):=by simp [mxI,mx2];omega
   simp (disch:=try exact ac)[bI,la,lb,hne,m1,m2]
   grind [ci,AK]
theorem F8:1<Z:=au
theorem Mk {A D:List Nat} {a b n:Nat} (hA:A.length=n) (hD:D.length=n) (sA:aD Z A) (sD:aD Z D) (va:val Z A=a) (vb:val Z D=b) (hba:b<=a) :
  val Z (fU 1 0 D (D.length+1) 0 0 0 (A++[0])).2=a-b∧aD Z (fU 1 0 D (D.length+1) 0 0 0 (A++[0])).2∧(fU 1 0 D (D.length+1) 0 0 0 (A++[0])).2.length=n+1:=by
 have sA0:aD Z (A++[0]):=nO sA (mi 1);have l2:=gO bg sD;rw [vb,hD] at l2
 obtain ⟨h1,h2,h3,h4⟩:=yX (g:=1) (at_:=0) F8 sD (D.length+1) 0 0 0 (A++[0]) aR bg (Ys _) sA0 (by
  rw [Yo,vb,hD,Xp,Zj,Nat.pow_succ];exact Z1 l2 (Zh _ bg))
 have e2:val Z (A++[0])=a:=by rw [show ([0]:List Nat)=List.replicate 1 0 from rfl,kU,va]
 have hl:(fU 1 0 D (D.length+1) 0 0 0 (A++[0])).2.length=n+1:=by rw [h1.1];simp [hA]
 refine ⟨?_,h2,hl⟩;have h5:=gO bg h2;rw [hl] at h5;rw [e2,Yo,vb,hD] at h4;rw [hD] at h3 h5 ⊢;generalize val Z (fU 1 0 D (n+1) 0 0 0 (A++[0])).2=x at *;generalize (fU 1 0 D (n+1) 0 0 0 (A++[0])).1=c at *;simp only [Zj,Nat.add_zero,Nat.pow_zero,Xp] at h4;rcases Zk c with h | h
 ·subst h;omega
 ·have:c=1:=aa;subst this;rw [X8] at h4;omega
theorem wP {a b:Nat} (hba:b<=a) (ha:ndg a < 1000000):CP Y F.gm [S (ah a),S (ah b)] (.tup [S (ah (a - b)),I 0]):=by
 have hb:ndg b < 1000000:=Zf (cS hba) ha;refine BH ?_;have bo:=yH a b;have dc:=sW ha hb
 have hc:¬ Big.cmp a b < 0:=by
  unfold Big.cmp;rw [if_neg aa];split <;> omega
 have hc2:(-1:Int)<=Big.cmp a b∧Big.cmp a b<=1:=by
  unfold Big.cmp;split
  ·omega
  ·split <;> omega
 generalize Big.cmp a b=cc at *;simp (disch:=try exact ac)[gm];refine cd dc ?_;simp (disch:=try exact ac)[hc];by_cases h18:ndg a<=18∧ndg b<=18
 ·rw [if_pos h18] at bo;have g3:10 ^ ndg a<=10 ^ 18:=Z4 ae h18.1;have b1:a < 1000000000000000000:=Z1 (b6 a) g3;refine cd bo ?_;obtain ⟨m,hm⟩:∃ m,a - b=m:=⟨_,rfl⟩;have em:(a:Int) - (b:Int)=(m:Int):=aa;rw [hm];simp (disch:=try exact ac)[em];refine cd (wt (n:=m) aa) ?_;exact av rfl rfl
 rw [if_neg h18] at bo;obtain ⟨ca,hca⟩:∃ ca,ca=ndg a / 9+1:=⟨_,rfl⟩;obtain ⟨cb,hcb⟩:∃ cb,cb=ndg b / 9+1:=⟨_,rfl⟩;have cA:=pd (h:=[(0,.none),(0,.none),(0,.none),(0,.none),(0,.none),(0,.none),(0,.none)]) rfl (n:=a) aa hca;have LA:bF a=ca∨bF a+1=ca:=by rw [hca];exact yF
 have LB:bF b=cb∨bF b+1=cb:=by rw [hcb];exact yF
 have hle:bF b<=bF a:=(lN au).2 (Zf hba (Ed a));have hli:∀ h:Hp,eY 1 [D.int .u64 0] [(0,V.d (D.int .u64 0))] h=some ([u6 0],h):=fun h=>by simp [eY,iS,kI,toD,u6]
 refine cd bo ?_;simp (disch:=try exact ac)[];refine kg (gL (e:=0) (b:=.none) cA rfl ?_);rw [List.length_map,cr];simp (disch:=try exact ac)[hli]
 have nv:NV [(1,.data 1 ((aY ca a).map u6) true false),(0,.none),(0,.none),(0,.none),(0,.none),(0,.none),(0,.none)]:=by
  intro j x hj b';rcases Xd.2 ⟨j,hj⟩ with hm;simp only [Zr,Y6,or_false] at hm;rcases hm with rfl | rfl | rfl | rfl | rfl | rfl | rfl <;> rfl
 refine Kw (s:=0) (t:=1) (n:=a) (c:=ca) aa rfl rfl LA aa fun s1 e1 ex1 h1 l1 g1 hs1 o1=>?_
 have nv1:=nv.upd g1 o1;have k1:∀ j,2<=j->h1[j]? = ([(1,.data 1 ((aY ca a).map u6) true false),(0,.none),(0,.none),(0,.none),(0,.none),(0,.none),(0,.none)]:Hp)[j]?:=fun j hj=>o1 j aa
 have hr1:bq (.ref s1 e1 0 (bF a+1) (bF a+1) (bF a+1))=some (I (bF a+1:Nat)):=rfl
 have hb1:biI .sub (I ((bF a+1:Nat):Int)) (.d (.int .i64 1))=some (I (bF a)):=by
  rw [qy,show (((bF a+1:Nat):Int) - 1)=(bF a:Int) by omega,pn aa aa]
 -- the second number, twice
 have cB:=pd (h:=h1) (nv1.all _) (n:=b) aa hcb;refine kg (u:=.mk) (gL (e:=0) (b:=.none) cB (k1 2 aa) ?_);rw [List.length_map,cr];have l2:(h1.set 2 (1,.data 1 ((aY cb b).map u6) true false)).length=7:=by simp [l1]
 have n2:(2:Nat) < h1.length:=by rw [l1];simp
 have g2:(h1.set 2 (1,.data 1 ((aY cb b).map u6) true false))[2]? = some (1,.data 1 ((aY cb b).map u6) true false):=by simp [n2]
 have o2:∀ j,j≠2->(h1.set 2 (1,.data 1 ((aY cb b).map u6) true false))[j]? = h1[j]?:=fun j hj=>by rw [List.getElem?_set_ne (Ne.symm hj)]
 have nv2:=nv1.upd g2 o2;generalize h1.set 2 (1,.data 1 ((aY cb b).map u6) true false)=h2 at *
 show bnd (bq (.ref s1 e1 0 (bF a+1) (bF a+1) (bF a+1))) _
 simp only [hr1,hb1,bnd];have cB2:=pd (h:=h2) (nv2.all _) (n:=b) aa hcb;refine kg (u:=.mk) (gL (e:=0) (b:=.none) cB2 ((o2 3 ae).trans (k1 3 aa)) ?_);rw [List.length_map,cr];have n3:(3:Nat) < h2.length:=by rw [l2];simp
 have g3:(h2.set 3 (1,.data 1 ((aY cb b).map u6) true false))[3]? = some (1,.data 1 ((aY cb b).map u6) true false):=by simp [n3]
 have o3:∀ j,j≠3->(h2.set 3 (1,.data 1 ((aY cb b).map u6) true false))[j]? = h2[j]?:=fun j hj=>by rw [List.getElem?_set_ne (Ne.symm hj)]
 have nv3:=nv2.upd g3 o3;generalize h2.set 3 (1,.data 1 ((aY cb b).map u6) true false)=h3 at *;obtain ⟨k,hk⟩:∃ k,k=bF a - bF b:=⟨_,rfl⟩;have hr2:bq (.ref 3 (0+1) 0 (bF b) cb cb)=some (I (bF b:Nat)):=rfl
 have hb2:biI .sub (I (bF a:Int)) (I (bF b:Int))=some (I k):=by
  rw [qy,show ((bF a:Int) - (bF b:Int))=(k:Int) by omega,pn aa aa]
 simp only [show bq (V.ref 3 (0+1) 0 (dig Z b).length cb cb)=some (I (bF b:Nat)) from rfl,hb2];have q2:h3[2]? = some (1,.data 1 ((aY cb b).map u6) true false):=(o3 2 ae).trans g2;have q4:h3[4]? = some (0,.none):=((o3 4 ae).trans (o2 4 ae)).trans (k1 4 aa)
 refine Kt (u:=.mk) (s:=2) (t:=4) aa q2 q4 LB aa fun t1 s4 h4 l4 hs4 o4 ⟨e4,l4',ex4,g4⟩ rd=>?_
 have nv4:=nv3.upd g4 o4;have hss:s1≠s4:=by rcases hs1 with rfl | rfl <;> rcases hs4 with rfl | rfl <;> omega
 have h12:s1≠2∧s1≠3:=by rcases hs1 with rfl | rfl <;> omega
 have gs:h4[s1]? = some (e1,.data 1 ((dig Z a++[0]).map u6) ex1 false):=(((o4 s1 hss).trans (o3 s1 h12.2)).trans (o2 s1 h12.1)).trans g1;have lt4:=bB gs;have hdl:(dig Z b++List.replicate k 0).length=bF a:=by simp only [Zg,Y8];show bF b+k=_;omega
 have sD:aD Z (dig Z b++List.replicate k 0):=nO (bL au b) (mi _);have vD:val Z (dig Z b++List.replicate k 0)=b:=by rw [kU,fF au]
 have rdS:=rd (fun t=>∃ l,t=sP h4 s1 e1 ex1 l) (fun g ⟨l,hg⟩=>by rw [hg];unfold sP;rw [List.getElem?_set_ne hss]);obtain ⟨c1,c2,c3⟩:=Mk (n:=bF a) rfl hdl (bL au a) sD (fF au a) vD hba
 have bk:=Fi (g:=1) (at_:=0) (tot:=bF a+1) (l:=dig Z a++[0]) (ex:=ex1) (e:=e1) (s:=s1) (h:=h4) (nv4.all _) lt4 rdS sD F8 (by rw [hdl];omega) aa (by simp [bF]) (nO (bL au a) (mi 1));rw [Jk gs] at bk;refine kg (u:=.mk) (lV bk ?_ af);exact Cb nv4 lt4 c3 c1 c2 aa (fun v=>.tup [v,I 0]) (fun _=>av rfl rfl)
theorem sG {z:Int} {w:Nat} (h:sdg z<=w):z.natAbs<10 ^ w:=by
 have:ndg z.natAbs<=w:=by unfold sdg at h;omega
 exact Z1 (b6 _) (Z4 ae this)
theorem km {z:Int} (h1 : -9223372036854775808<z) (h2:z<9223372036854775808):CP Y F.bT [I z] (S (itoa z)):=by
 refine yN ?_;simp (disch:=try exact ac)[bT];refine cd (yz h1 h2) ?_;exact dh rfl
theorem oN {a b k:Nat} (ha:ndg a<=k) (hb:ndg b<=k):ndg (a+b)<=k+1:=by
 have h1:a<10 ^ k:=Z1 (b6 a) (Z4 ae ha);have h2:b<10 ^ k:=Z1 (b6 b) (Z4 ae hb);exact bi (by rw [Nat.pow_succ];omega) aa
theorem PI {z w:Int} (hz:ndg z.natAbs<999999) (hw:ndg w.natAbs<999999) : 
  cal (CX Y).p [] (.fn F.aN [] []) [S (itoa z)] fun v6 h=>
  ext v6 0 fun v7=>
  ext v6 1 fun v8=>
  cal (CX Y).p h (.fn F.aN [] []) [S (itoa w)] fun v9 h=>
  ext v9 0 fun v10=>
  ext v9 1 fun v11=>
  bnd (biB .eql v7 v10) fun v12=>
  cnd v12 (
   cal (CX Y).p h (.fn F.fh [] []) [v8,v11] fun v13 h=>
   cal (CX Y).p h (.fn F.bK [] []) [v7,v13] fun v14 h=>
   out (S (itoa (z+w))) v14 h) (
   cal (CX Y).p h (.fn F.bI [] []) [v8,v11] fun v15 h=>
   bnd (biI .lss v15 (.d (.int .i64 0))) fun v16=>
   jn (fun l17 h=>
    cal (CX Y).p h (.fn F.gm [] []) [(ge l17 1),(ge l17 2)] fun v19 h=>
    ext v19 0 fun v20=>
    ext v19 1 fun v21=>
    cal (CX Y).p h (.fn F.bK [] []) [(ge l17 0),v20] fun v22 h=>
    out (S (itoa (z+w))) v22 h) fun q18=>
    cnd v16 (
     q18 [v10,v11,v8] h) (
     q18 [v7,v8,v11] h)):=by
 simp (disch:=try exact ac)[];refine cd (nM z) ?_;simp (disch:=try exact ac)[];refine cd (nM w) ?_;have eb:biB .eql (B (decide (z<0))) (B (decide (w<0)))=some (B (decide (z<0) == decide (w<0))):=rfl;simp (disch:=try exact ac)[eb];by_cases hs:(z<0↔w<0)
 ·simp (disch:=try exact ac)[hs];refine cd (AE (a:=z.natAbs) (b:=w.natAbs) aa aa) ?_;simp (disch:=try exact ac)[];have hk:ndg (z.natAbs+w.natAbs)<=999999:=oN aa aa;refine cd (jO (decide (z<0)) (n:=z.natAbs+w.natAbs) aa) ?_;refine dh ?_;congr 1;unfold sg;by_cases h:z<0
  ·simp [h];omega
  ·simp [h];omega
 ·simp (disch:=try exact ac)[hs];refine cd (sW (a:=z.natAbs) (b:=w.natAbs) aa aa) ?_;simp (disch:=try exact ac)[];by_cases hlt:z.natAbs<w.natAbs
  ·have hc:Big.cmp z.natAbs w.natAbs<0:=by rw [AJ hlt];decide
   refine fk (l:=[B (decide (w<0)),S (ah w.natAbs),S (ah z.natAbs)]) (h:=[]) (fun q=>by simp (disch:=try exact ac)[hc]) ?_;simp (disch:=try exact ac)[];refine cd (wP (a:=w.natAbs) (b:=z.natAbs) aa aa) ?_;simp (disch:=try exact ac)[]
   refine cd (jO (decide (w<0)) (n:=w.natAbs-z.natAbs) (Zf (cS (Nat.sub_le ..)) aa)) ?_;refine dh ?_;congr 1;unfold sg;by_cases h:w<0
   ·simp [h];omega
   ·simp [h];omega
  ·have hc:¬ Big.cmp z.natAbs w.natAbs<0:=by
    rcases Nat.eq_or_lt_of_not_lt hlt with h | h
    ·rw [h,cmp_eq];decide
    ·rw [AK h];decide
   refine fk (l:=[B (decide (z<0)),S (ah z.natAbs),S (ah w.natAbs)]) (h:=[]) (fun q=>by simp (disch:=try exact ac)[hc]) ?_;simp (disch:=try exact ac)[];refine cd (wP (a:=z.natAbs) (b:=w.natAbs) aa aa) ?_;simp (disch:=try exact ac)[]
   refine cd (jO (decide (z<0)) (n:=z.natAbs-w.natAbs) (Zf (cS (Nat.sub_le ..)) aa)) ?_;refine dh ?_;congr 1;unfold sg;by_cases h:z<0
   ·simp [h];omega
   ·simp [h];omega
theorem pq {z w:Int} (hz:ndg z.natAbs<999999) (hw:ndg w.natAbs<999999):CP Y F.bR [S (itoa z),S (itoa w)] (S (itoa (z+w))):=by
 refine E3 ?_;have l1:=oj z 18 ae;have l2:=oj w 18 ae;have tl:=PI hz hw;simp (disch:=try exact ac)[bR];refine cd l1 ?_;by_cases h1:sdg z<=18
 ·rw [if_pos h1];simp (disch:=try exact ac)[];by_cases h2:sdg w<=18
  ·rw [if_pos h2] at l2;refine aC ?_;simp (disch:=try exact ac)[];refine cd l2 ?_;have b1:=sG h1;have b2:=sG h2;simp only [Nat.reducePow] at b1 b2;obtain ⟨m,hm⟩:∃ m,z+w=m:=⟨_,rfl⟩;rw [hm];simp (disch:=try exact ac)[hm];refine cd (km (z:=m) aa aa) ?_;exact dh rfl
  ·rw [if_neg h2] at l2;refine aC ?_;simp (disch:=try exact ac)[];refine cd l2 ?_;simp (disch:=try exact ac)[];simpa using tl
 ·rw [if_neg h1];simp (disch:=try exact ac)[];refine aC ?_;simp (disch:=try exact ac)[];simpa using tl
theorem nT {z w:Int} (hz:ndg z.natAbs<400000) (hw:ndg w.natAbs<400000):CP Y F.aE [S (itoa z),S (itoa w)] (S (itoa (z*w))):=by
 refine EW ?_;have l1:=oj z 9 ae;have l2:=oj w 9 ae;have dm:=CR (a:=z.natAbs) (b:=w.natAbs) aa aa
 have hk:ndg (z.natAbs*w.natAbs)<1000000:=by
  have h1:=b6 z.natAbs;have h2:=b6 w.natAbs;have h3:z.natAbs*w.natAbs<10 ^ (ndg z.natAbs+ndg w.natAbs):=by rw [Yy];exact Yt h1 h2
  have:=bi h3 (by have:=iT z.natAbs;omega);omega
 have e:sg (decide (z<0) != decide (w<0)) (z.natAbs*w.natAbs)=z*w:=by
  unfold sg;by_cases h1:z<0 <;> by_cases h2:w<0
  ·simp [h1,h2];rw [Xz aa,Xz aa,Int.neg_mul_neg]
  ·simp [h1,h2];rw [Xz aa,W8 aa,Wv,Int.neg_neg]
  ·simp [h1,h2];rw [W8 aa,Xz aa,Int.mul_neg,Int.neg_neg]
  ·simp [h1,h2];rw [W8 aa,W8 aa]
 have eb:biB .neq (B (decide (z<0))) (B (decide (w<0)))=some (B (decide (z<0) != decide (w<0))):=rfl;have jo:=jO (decide (z<0) != decide (w<0)) hk;rw [e] at jo
 have tail:∀ u:Unit,cal (CX Y).p [] (.fn F.aN [] []) [S (itoa z)] fun v6 h=>
  ext v6 0 fun v7=>
  ext v6 1 fun v8=>
  cal (CX Y).p h (.fn F.aN [] []) [S (itoa w)] fun v9 h=>
  ext v9 0 fun v10=>
  ext v9 1 fun v11=>
  bnd (biB .neq v7 v10) fun v12=>
  cal (CX Y).p h (.fn F.ib [] []) [v8,v11] fun v13 h=>
  cal (CX Y).p h (.fn F.bK [] []) [v12,v13] fun v14 h=>
  out (S (itoa (z*w))) v14 h:=by
  intro _;simp (disch:=try exact ac)[];refine cd (nM z) ?_;simp (disch:=try exact ac)[];refine cd (nM w) ?_;simp (disch:=try exact ac)[eb];refine cd dm ?_;simp (disch:=try exact ac)[];refine cd jo ?_;exact dh rfl
 simp (disch:=try exact ac)[aE];refine cd l1 ?_;by_cases h1:sdg z<=9
 ·rw [if_pos h1];simp (disch:=try exact ac)[];by_cases h2:sdg w<=9
  ·rw [if_pos h2] at l2;refine aC ?_;simp (disch:=try exact ac)[];refine cd l2 ?_;have b1:=sG h1;have b2:=sG h2
   have hmb:(z*w).natAbs<1000000000000000000:=by
    rw [Zm];exact Yt b1 b2
   obtain ⟨m,hm⟩:∃ m,z*w=m:=⟨_,rfl⟩;rw [hm] at hmb ⊢;simp (disch:=try exact ac)[hm];refine cd (km (z:=m) aa aa) ?_;exact dh rfl
  ·rw [if_neg h2] at l2;refine aC ?_;simp (disch:=try exact ac)[];refine cd l2 ?_;simp (disch:=try exact ac)[];simpa using tail ()
 ·rw [if_neg h1];simp (disch:=try exact ac)[];refine aC ?_;simp (disch:=try exact ac)[];simpa using tail ()
theorem fE (n:Nat):itoa (n:Int)=ah n:=by
 rfl
theorem P2 (n:Nat):sgn (n:Int)=if n=0 then 0 else 1:=by
 unfold sgn;by_cases h:n=0
 ·simp [h]
 ·rw [if_neg aa,if_neg aa,if_neg h]
theorem FD (n:Nat):CP Y F.bp [S (ah n)] (I (if n=0 then 0 else 1)):=by
 have:=jf (n:Int)
 grind [fE,P2]
theorem E5 {a b:Nat} (ha:ndg a<1000000) (hb:ndg b<1000000):CP Y F.fT [S (ah a),S (ah b)] (I (Big.cmp a b)):=by
 refine xx ?_;have s1:=FD a;have s2:=FD b;simp (disch:=try exact ac)[fT];by_cases h1:a=0
 ·rw [if_pos h1] at s1;by_cases h2:b=0
  ·rw [if_pos h2] at s2;refine cd s1 ?_;simp (disch:=try exact ac)[];refine cd s2 ?_;simp (disch:=try exact ac)[];refine cd (nN a) ?_;simp (disch:=try exact ac)[];refine cd (nN b) ?_;simp (disch:=try exact ac)[]
   refine fk (l:=[S (ah a),S (ah b)]) (h:=[]) (fun q=>by simp (disch:=try exact ac)[]) ?_;simp (disch:=try exact ac)[];refine cd (sW ha hb) ?_;simp
  ·rw [if_neg h2] at s2;refine cd s1 ?_;simp (disch:=try exact ac)[];refine cd s2 ?_;simp (disch:=try exact ac)[];exact ci (AJ aa).symm
 ·rw [if_neg h1] at s1;by_cases h2:b=0
  ·rw [if_pos h2] at s2;refine cd s1 ?_;simp (disch:=try exact ac)[];refine cd s2 ?_;simp (disch:=try exact ac)[];exact ci (AK aa).symm
  ·rw [if_neg h2] at s2;refine cd s1 ?_;simp (disch:=try exact ac)[];refine cd s2 ?_;simp (disch:=try exact ac)[];refine cd (nN a) ?_;simp (disch:=try exact ac)[];refine cd (nN b) ?_;simp (disch:=try exact ac)[]
   refine fk (l:=[S (ah a),S (ah b)]) (h:=[]) (fun q=>by simp (disch:=try exact ac)[]) ?_;simp (disch:=try exact ac)[];refine cd (sW ha hb) ?_;simp
theorem As {a b:Nat} (hb:0<b):(-(a:Int)) / (b:Int)=(if a % b=0 then -((a / b:Nat):Int) else -((a / b+1:Nat):Int))∧(-(a:Int)) % (b:Int)=(if a % b=0 then 0 else ((b-a % b:Nat):Int)):=by
 have h1:=Yj a b;have h2:=Y3 a hb;have hbz:(b:Int) > 0:=aa;generalize a % b=r at *;generalize a / b=q at *;by_cases h:r=0
 ·subst h;simp only [if_true]
  have e:(-(a:Int))=(b:Int)*(-(q:Int)):=by
   rw [Int.mul_neg,<- Int.natCast_mul];congr 1;omega
  rw [e];exact ⟨Int.mul_ediv_cancel_left _ aa,Int.mul_emod_right _ _⟩
 ·simp only [if_neg h]
  have e:(-(a:Int))=((b-r:Nat):Int)+(b:Int)*(-((q+1:Nat):Int)):=by
   have:(a:Int)=(b:Int)*q+r:=by rw [<- Int.natCast_mul];omega
   rw [this,Int.mul_neg,Int.natCast_add,Int.mul_add];have:((b-r:Nat):Int)=(b:Int)-r:=aa;omega
  have l1:(0:Int)<=((b-r:Nat):Int):=aa;have l2:((b-r:Nat):Int)<(b:Int):=aa;rw [e];constructor
  ·rw [Int.add_mul_ediv_left _ _ aa,Int.ediv_eq_zero_of_lt l1 l2,Wo]
  ·rw [Int.add_mul_emod_self_left,Int.emod_eq_of_lt l1 l2]
theorem uP:ndg 1=1:=aG
theorem sL {a b a' b':List UInt8} {c:Int} {h:Hp} (e1:a'=a) (e2:b'=b):out (.tup [S a,S b,I c]) (.tup [S a',S b',I c]) h:=by
 simp_all [gY]
theorem QY {z:Int} {b:Nat} (hb:0<b) (hz:ndg z.natAbs<900000) (hbd:ndg b<900000) :
   cal (CX Y).p [] (.fn F.aN [] []) [S (itoa z)] fun v7 h=>
   ext v7 0 fun v8=>
   ext v7 1 fun v9=>
   cal (CX Y).p h (.fn F.aN [] []) [S (ah b)] fun v10 h=>
   ext v10 0 fun v11=>
   ext v10 1 fun v12=>
   cal (CX Y).p h (.fn F.dz [] []) [v9,v12] fun v13 h=>
   ext v13 0 fun v14=>
   ext v13 1 fun v15=>
   ext v13 2 fun v16=>
   bnd (biI .neq v16 (.d (.int .i64 0))) fun v17=>
   cnd v17 (
    out (.tup [S (itoa (z / b)),S (itoa (z % b)),I 0]) (.tup [(.d (.str [])),(.d (.str [])),v16]) h) (
    bnd (biB .neq v8 v11) fun v18=>
    gd v18 true h (fun q=>q v15 h) fun v19 h=>
    gd v18 true h (fun q=>bnd (biS .neq v19 (.d (.str [48]))) fun v=>q v h) fun v20 h=>
    bnd (cW v18 v20 (.d (.bool false))) fun v21=>
    jn (fun l22 h=>
     bnd (biB .neq v8 v11) fun v24=>
     cal (CX Y).p h (.fn F.bK [] []) [v24,(ge l22 0)] fun v25 h=>
     cal (CX Y).p h (.fn F.bK [] []) [v11,(ge l22 1)] fun v26 h=>
     out (.tup [S (itoa (z / b)),S (itoa (z % b)),I 0]) (.tup [v25,v26,(.d (.int .i64 0))]) h) fun q23=>
     cnd v21 (
      cal (CX Y).p h (.fn F.fh [] []) [v14,(.d (.str [49]))] fun v27 h=>
      cal (CX Y).p h (.fn F.gm [] []) [v12,v15] fun v28 h=>
      ext v28 0 fun v29=>
      ext v28 1 fun v30=>
      q23 [v27,v29] h) (
      q23 [v14,v15] h)):=by
 have hq:ndg (z.natAbs / b)<=ndg z.natAbs:=cS (Yq ..);have hr:z.natAbs % b<b:=Y3 _ hb;have hr2:ndg (z.natAbs % b)<=ndg b:=cS aa
 have eb:biB .neq (B (decide (z<0))) (B false)=some (B (decide (z<0))):=by
  show some (B (decide (z<0) != false))=_
  rw [Bool.bne_false]
 simp (disch:=try exact ac)[];refine cd (nM z) ?_;simp (disch:=try exact ac)[];refine cd (nN b) ?_;simp (disch:=try exact ac)[];refine cd (wI (a:=z.natAbs) hb aa aa) ?_;by_cases hneg:z<0
 ·have ez:z = -(z.natAbs:Int):=aa;obtain ⟨d1,d2⟩:=As (a:=z.natAbs) hb;rw [<- ez] at d1 d2;rw [decide_eq_true hneg] at eb ⊢;by_cases h0:z.natAbs % b=0
  ·rw [if_pos h0] at d1 d2;rw [h0,dG];simp (disch:=try exact ac)[eb];refine fk (l:=[S (ah (z.natAbs / b)),S [48]]) (h:=[]) (fun q=>by simp (disch:=try exact ac)[]) ?_;simp (disch:=try exact ac)[eb];refine cd (jO true (n:=z.natAbs / b) aa) ?_;simp (disch:=try exact ac)[]
   have j0:=jO false (n:=0) (by grind);rw [dG] at j0;refine cd j0 ?_;refine sL ?_ ?_
   ·rw [d1];rfl
   ·rw [d2];rfl
  ·rw [if_neg h0] at d1 d2;have h48:¬ ah (z.natAbs % b)=[48]:=fun h=>h0 (jr.1 h)
   have ad:=AE (a:=z.natAbs / b) (b:=1) aa (by simp [uP]);rw [show ah 1=[49] by decide +kernel] at ad;simp (disch:=try exact ac)[eb,h48];refine aC ?_;simp (disch:=try exact ac)[h48];refine cd ad ?_;simp (disch:=try exact ac)[];refine cd (wP (a:=b) (b:=z.natAbs % b) aa aa) ?_
   simp (disch:=try exact ac)[eb];have hq1:ndg (z.natAbs / b+1)<=900000+1:=oN aa (by simp [uP]);refine cd (jO true (n:=z.natAbs / b+1) aa) ?_;simp (disch:=try exact ac)[];refine cd (jO false (n:=b-z.natAbs % b) (Zf (cS (Nat.sub_le ..)) aa)) ?_;refine sL ?_ ?_
   ·rw [d1];rfl
   ·rw [d2];rfl
 ·rw [decide_eq_false hneg] at eb ⊢;simp (disch:=try exact ac)[eb];refine fk (l:=[S (ah (z.natAbs / b)),S (ah (z.natAbs % b))]) (h:=[]) (fun q=>by simp (disch:=try exact ac)[]) ?_;simp (disch:=try exact ac)[eb];refine cd (jO false (n:=z.natAbs / b) aa) ?_;simp (disch:=try exact ac)[]
  refine cd (jO false (n:=z.natAbs % b) aa) ?_;have ez:z=(z.natAbs:Int):=aa;refine sL ?_ ?_
  ·rw [ez,<- Int.natCast_ediv];rfl
  ·rw [ez,<- Int.natCast_emod];rfl
theorem pV {z:Int} {b:Nat} (hb:0<b) (hz:ndg z.natAbs<900000) (hbd:ndg b<900000):CP Y F.aP [S (itoa z),S (ah b)] (.tup [S (itoa (z / b)),S (itoa (z % b)),I 0]):=by
 refine yP ?_;have l1:=oj z 18 ae;have l2:=Ij b 18 ae;have tl:=QY hb hz hbd;have h48:¬ ah b=[48]:=fun h=>by grind [jr]
 simp (disch:=try exact ac)[aP,h48];refine cd l1 ?_;by_cases h1:sdg z<=18
 ·rw [if_pos h1];by_cases h2:ndg b<=18
  ·rw [if_pos h2] at l2;simp (disch:=try exact ac)[];refine aC ?_;simp (disch:=try exact ac)[];refine cd l2 ?_;have b1:=sG h1;have b2:b<10 ^ 18:=Z1 (b6 b) (Z4 ae h2);simp only [Nat.reducePow] at b1 b2;have hbz:¬ (b:Int)=0:=aa;obtain ⟨n,hn⟩:∃ n,n=z.natAbs:=⟨_,rfl⟩;rw [<- hn] at b1
   have hq:n / b<=n:=Yq ..;have hr:n % b<b:=Y3 _ hb;by_cases hneg:z<0
   ·have ez:z = -(n:Int):=aa;obtain ⟨d1,d2⟩:=As (a:=n) hb;rw [<- ez] at d1 d2;have q1:z.tdiv (b:Int) = -((n / b:Nat):Int):=by rw [ez,Int.neg_tdiv,Zy aa,<- Int.natCast_ediv]
    have q2:z.tmod (b:Int) = -((n % b:Nat):Int):=by rw [ez,Int.neg_tmod,Zt aa,<- Int.natCast_emod]
    obtain ⟨q,hqq⟩:∃ q,q=n / b:=⟨_,rfl⟩;obtain ⟨r,hrr⟩:∃ r,r=n % b:=⟨_,rfl⟩;rw [<- hqq] at q1 d1 hq;rw [<- hrr] at q2 d1 d2 hr;by_cases h0:r=0
    ·rw [if_pos h0] at d1 d2;rw [h0] at q2;simp (disch:=try exact ac)[q1,q2];refine fk (l:=[I (-(q:Int)),I 0]) (h:=[]) (fun q=>by simp (disch:=try exact ac)[]) ?_;simp (disch:=try exact ac)[];refine cd (km (z:=-(q:Int)) aa aa) ?_;simp (disch:=try exact ac)[];refine cd (km (z:=0) aa aa) ?_
     refine sL ?_ ?_
     ·rw [d1]
     ·rw [d2]
    ·rw [if_neg h0] at d1 d2;have r0:¬ (-(r:Int))=0:=aa;have r1:(-(r:Int))<0:=aa;have r2:¬ (b:Int)<0:=aa;have eb:∀ x y:Bool,biB .neq (B x) (B y)=some (B (x != y)):=fun _ _=>rfl
     simp (disch:=try exact ac)[q1,q2,r0,r1,r2,eb];refine fk (l:=[I (-(q:Int)-1),I (-(r:Int)+b)]) (h:=[]) (fun q=>by simp (disch:=try exact ac)[r0,r1,r2]) ?_;simp (disch:=try exact ac)[];refine cd (km (z:=-(q:Int)-1) aa aa) ?_;simp (disch:=try exact ac)[]
     refine cd (km (z:=-(r:Int)+b) aa aa) ?_
     grind [sL]
   ·have ez:z=(n:Int):=aa;have q1:z.tdiv (b:Int)=((n / b:Nat):Int):=by rw [ez,Zy aa,<- Int.natCast_ediv]
    have q2:z.tmod (b:Int)=((n % b:Nat):Int):=by rw [ez,Zt aa,<- Int.natCast_emod]
    have d1:z / (b:Int)=((n / b:Nat):Int):=by rw [ez,<- Int.natCast_ediv]
    have d2:z % (b:Int)=((n % b:Nat):Int):=by rw [ez,<- Int.natCast_emod]
    obtain ⟨q,hqq⟩:∃ q,q=n / b:=⟨_,rfl⟩;obtain ⟨r,hrr⟩:∃ r,r=n % b:=⟨_,rfl⟩;rw [<- hqq] at q1 d1 hq;rw [<- hrr] at q2 d2 hr;have r1:¬ ((r:Int))<0:=aa;have r2:¬ (b:Int)<0:=aa;have eb:∀ x y:Bool,biB .neq (B x) (B y)=some (B (x != y)):=fun _ _=>rfl
    have fin:∀ h:Hp,cal (CX Y).p h (V.fn F.bT [] []) [I q] fun v45 h=>
      cal (CX Y).p h (V.fn F.bT [] []) [I r] fun v46 h=>out (V.tup [S (itoa (z / (b:Int))),S (itoa (z % (b:Int))),I 0]) (V.tup [v45,v46,V.d (D.int IntKind.i64 0)]) h:=by
     intro h;simp (disch:=try exact ac)[];refine cd (km (z:=q) aa aa) ?_;simp (disch:=try exact ac)[];refine cd (km (z:=r) aa aa) ?_;refine sL ?_ ?_
     ·rw [d1]
     ·rw [d2]
    by_cases h0:r=0
    ·rw [h0] at q2 fin;simp (disch:=try exact ac)[q1,q2];refine fk (l:=[I q,I 0]) (h:=[]) (fun q=>by simp (disch:=try exact ac)[]) ?_;exact fin []
    ·have r0:¬ (r:Int)=0:=aa;simp (disch:=try exact ac)[q1,q2,r0,r1,r2,eb];refine fk (l:=[I q,I r]) (h:=[]) (fun q=>by simp (disch:=try exact ac)[r0,r1,r2]) ?_;exact fin []
  ·rw [if_neg h2] at l2;simp (disch:=try exact ac)[];refine aC ?_;simp (disch:=try exact ac)[];refine cd l2 ?_;simp (disch:=try exact ac)[];trivial
 ·rw [if_neg h1];simp (disch:=try exact ac)[];refine aC ?_;simp (disch:=try exact ac)[];trivial
theorem LR {a b:Nat} (ha0:0<a) (hb0:0<b) (ha:ndg a<400000) (hb:ndg b<400000):CP Y F.jS [S (ah a),S (ah b)] (S (ah (Nat.lcm a b))):=by
 refine BL ?_;have h1:¬ ah a=[48]:=fun h=>by have:=jr.1 h;omega
 have h2:¬ ah b=[48]:=fun h=>by have:=jr.1 h;omega
 have hg:0<Nat.gcd a b:=Nat.gcd_pos_of_pos_left _ ha0;have hgl:Nat.gcd a b<=a:=Nat.gcd_le_left _ ha0;have hq:ndg (a / Nat.gcd a b)<=ndg a:=cS (Yq ..);simp (disch:=try exact ac)[jS,h1,h2];refine cd (JZ aa aa) ?_;simp (disch:=try exact ac)[]
 refine cd (wI (a:=a) (b:=Nat.gcd a b) hg aa (by have:=cS hgl;omega)) ?_;simp (disch:=try exact ac)[];refine cd (CR (a:=a / Nat.gcd a b) (b:=b) aa aa) ?_;refine dh ?_;congr 1;rw [Nat.lcm,Zx,<- Nat.mul_div_assoc _ (W4 a b),Zx]
theorem Kx (n:Nat):CP Y F.gz [S (ah n)] (S (ah n)):=by
 have:=EL (n:Int)
 rwa [fE,Int.natAbs_natCast] at this
theorem PO {a b:Nat} (ha0:0<a) (hb0:0<b) (ha:ndg a<400000) (hb:ndg b<400000):CP Y F.kS [S (ah a),S (ah b)] (S (ah (Nat.lcm a b))):=by
 refine EY ?_;simp (disch:=try exact ac)[kS];refine cd (Kx a) ?_;simp (disch:=try exact ac)[];refine cd (Kx b) ?_;simp (disch:=try exact ac)[];refine cd (LR ha0 hb0 ha hb) ?_;exact dh rfl
theorem Le {z:Int} (h:z.natAbs<9223372036854775808):CP Y F.eA [S (itoa z),I 10,I 64] (.tup [I z,.d (.pl .nilIface)]):=by
 have key:∀ n:Nat,n<9223372036854775808->(ah n)≠[]∧(ah n).all kN=true∧(ah n).length<=1000∧lW 0 (ah n)=n:=by
  intro n hn;have hd:=cV n;have hc:=oE n
  have hl:(ah n).length<=1000:=by
   have:=bi (n:=n) (d:=19) aa ae;rw [ah,aV];omega
  simp only [mX,Z8] at hc
  have hall:(ah n).all kN=true:=by
   rw [<- hc.1.2];congr 1;funext c;exact digit_eq c
  exact ⟨rR n,hall,hl,by rw [sV,hd]⟩
 have ho:Y.X.orc F.eA [.string ⟨⟨itoa z⟩⟩,.int .i64 10,.int .i64 64]=some (.tuple #[.int .i64 z,.nilIface]):=by
  have e:∀ a,Y.X.orc F.eA a=JC a:=fun a=>rfl
  rw [e];obtain ⟨k1,k2,k3,k4⟩:=key _ h;unfold JC;simp only;rw [if_pos ⟨trivial,trivial⟩];by_cases hz:z<0
  ·have e1:itoa z=45::ah z.natAbs:=by unfold itoa;rw [if_pos hz]
   rw [e1];simp only;rw [if_pos ⟨k1,k2,k3,by rw [k4];exact h⟩,k4,show (-((z.natAbs:Nat):Int))=z by omega]
  ·have e1:itoa z=ah z.natAbs:=by unfold itoa;rw [if_neg hz]
   rw [e1];have hh:=oo z.natAbs;have ez:((z.natAbs:Nat):Int)=z:=aa;generalize ah z.natAbs=L at *
   have fin:(if L≠[]∧L.all kN=true∧L.length<=1000∧lW 0 L<9223372036854775808 then some (Value.tuple #[.int .i64 (lW 0 L),.nilIface]) else none)=some (Value.tuple #[.int .i64 z,.nilIface]):=by
    rw [if_pos ⟨k1,k2,k3,by rw [k4];exact h⟩,k4,ez]
   split
   ·rename_i l hl;exact absurd rfl hh
   ·exact fin
 exact CP.orc ho (by intro x hx;simp only [Zr,Y6,or_false] at hx;rcases hx with rfl | rfl | rfl <;> rfl) rfl
theorem sF {z:Int} (h:z.natAbs<9223372036854775808):CP Y F.fS [S (itoa z)] (.tup [I z,B true]):=by
 refine Ba ?_;simp (disch:=try exact ac)[fS];refine cd (Le h) ?_;simp (disch:=try exact ac)[D4];exact av rfl rfl
def RdN (s:Nat) (h:Hp) (v:V) (d:List Nat):Prop:=∀ h':Hp,h'.length=h.length->(∀ j,j≠s->h'[j]? = h[j]?)->RdP h' v d∧∃ h2,bY h' v=some (lst u6 d,h2)
theorem RdN.now {s:Nat} {h:Hp} {v:V} {d:List Nat} (r:RdN s h v d):RdP h v d:=(r h rfl fun _ _=>rfl).1
theorem RdN.step {s:Nat} {h h2:Hp} {v:V} {d:List Nat} (r:RdN s h v d) (hl:h2.length=h.length) (hs:∀ j,j≠s->h2[j]? = h[j]?):RdN s h2 v d:=
 fun h' h1 h3=>r h' (h1.trans hl) fun j hj=>(h3 j hj).trans (hs j hj)
theorem RdN.new {s t e N m:Nat} {h:Hp} (hst:s≠t) (hg:h[t]? = some (e,.data 1 ((aY N m).map u6) true false)) (hm:m<Z ^ N):RdN s h (.ref t e 0 (dig Z m).length N N) (dig Z m):=fun h' hl ho=>by
 have:=yL (h:=h') (cap:=N) ((ho t (Ne.symm hst)).trans hg) (cr ..).symm (fN hm);rw [j5 hm] at this;have sn:=rC (h:=h') ((ho t (Ne.symm hst)).trans hg) (cr ..).symm (len:=(dig Z m).length) (cap:=N) (fN hm) (Z7 _);rw [j5 hm] at sn;exact ⟨this,_,sn⟩
theorem and_one {n:Int} (h0:0<=n) (h1:n<9223372036854775808):biI .and (I n) (I 1)=some (I (n % 2)):=by
 obtain ⟨m,rfl⟩:∃ m:Nat,n=m:=⟨n.toNat,aa⟩
 have hb:(BitVec.ofInt 64 (m:Int) &&& BitVec.ofInt 64 1).toNat=m % 2:=by
  rw [BitVec.toNat_and]
  have e1:(BitVec.ofInt 64 (m:Int)).toNat=m:=by
   rw [BitVec.toNat_ofInt];omega
  have e2:(BitVec.ofInt 64 (1:Int)).toNat=1:=ae;rw [e1,e2,Nat.and_one_is_mod]
 simp only [biI,fA,ne_eq,not_true_eq_false,if_false,jK,gF]
 show some (V.d (.int .i64 (IntKind.wrap .i64 ((BitVec.ofInt 64 (m:Int) &&& BitVec.ofInt 64 1).toNat:Int))))=_
 rw [hb,pn aa aa];rfl
theorem Nv (k:KL):∀ (n A Bv:Nat) (o p:V) (h:Hp) (R:Nat),A * Bv ^ n=R->0 < A->0 < Bv->R < Z ^ 2000->n < 100000->h.length=3->NV h->RdN 2 h o (dig Z A)->RdN 1 h p (dig Z Bv) ->
  (∀ o' h' h2,h'.length=3->bY h' o'=some (lst u6 (dig Z R),h2)->NV h'->k (.exit 1) [o'] h')->∀ h0:Hp,h0.length=3->lp (iH (CX Y)) [] h0 [o,p,I n] h k:=by
 intro n
 induction n using Nat.strongRecOn with
 | ind n ih=>
  intro A Bv o p h R hR hA hB hlim hn hlen hnv ro rp hk h0 hl0;refine ax ?_;by_cases hz:n=0
  ·subst hz;simp (disch:=try exact ac)[iH];rw [Nat.pow_zero,X8] at hR;subst hR;obtain ⟨h2,hs2⟩:=(ro h rfl fun _ _=>rfl).2;exact hk o h h2 hlen hs2 hnv
  have hpos:(n:Int) > 0:=aa
  have hBR:Bv<=R:=by
   rw [<- hR];exact Z2 (Nat.le_of_eq (Nat.pow_one Bv).symm) (Z2 (Z4 hB aa) (Nat.le_mul_of_pos_left _ hA))
  have hAR:A<=R:=by rw [<- hR];exact Zh _ (Yk hB)
  have dA:(dig Z A).length<=2000:=fN aa;have dB:(dig Z Bv).length<=2000:=fN aa;have and1:=and_one (n:=(n:Int)) aa aa;have e2:((n:Int) / 2 ^ (1:Int).toNat)=((n / 2:Nat):Int):=af
  have sh:biI .shr (I n) (.d (.int .u64 1))=some (I (n / 2:Nat)):=by
   rw [P1 aa aa,e2]
  have hn2:n / 2 < n:=aa
  -- what a product gives
  have times:∀ (h:Hp) (v w:V) (a b s:Nat),h.length=3->NV h->s < 3->RdP h v (dig Z a)->RdP h w (dig Z b)->(dig Z a).length<=2000->(dig Z b).length<=2000->∀ q:V->Hp->Prop,
    (∀ o' h',h'.length=3->NV h'->(∀ j,j≠s->h'[j]? = h[j]?)->(∀ t,t≠s->RdN t h' o' (dig Z (a * b)))->q o' h')->cai (CX Y).i h (V.fn F.bb [] []) [v,w] s q:=by
   intro h v w a b s hl hv hs r1 r2 d1 d2 q hq;obtain ⟨N,hN⟩:∃ N,N=(dig Z a).length+(dig Z b).length:=⟨_,rfl⟩;have tk:=vS (h:=h) (hv.all _) r1 (bL au a) r2 (bL au b) aa aa hN;rw [fF au,fF au] at tk;have hs3:s < h.length:=aa;have hm:a * b < Z ^ N:=by rw [hN,Yy];exact Yt (rQ a) (rQ b)
   refine gL (e:=h[s].1) (b:=h[s].2) tk (List.getElem?_eq_getElem hs3) ?_;rw [List.length_map,cr];have gs:(h.set s (h[s].1+1,.data 1 ((aY N (a * b)).map u6) true false))[s]? = some (h[s].1+1,.data 1 ((aY N (a * b)).map u6) true false):=by simp [hs3]
   have os:∀ j,j≠s->(h.set s (h[s].1+1,.data 1 ((aY N (a * b)).map u6) true false))[j]? = h[j]?:=fun j hj=>by rw [List.getElem?_set_ne (Ne.symm hj)]
   exact hq _ _ (by simp [hl]) (hv.upd gs os) os (fun t ht=>RdN.new ht gs hm)
  have fin:∀ (A' B':Nat) (o' p':V) (h':Hp),A' * B' ^ (n / 2)=R->0 < A'->0 < B'->h'.length=3->NV h'->RdN 2 h' o' (dig Z A')->RdN 1 h' p' (dig Z B')->rl (lp (iH (CX Y)) [] h0 [o',p',I ((n:Int) / 2)] h') k .mk:=by
   intro A' B' o' p' h' e1 e2 e3 e4 e5 e6 e7;rw [show ((n:Int) / 2)=((n / 2:Nat):Int) by omega];exact ih (n / 2) hn2 A' B' o' p' h' R e1 e2 e3 hlim aa e4 e5 e6 e7 hk h0 hl0
  have hdm:=Yj n 2;simp (disch:=try exact ac)[iH,hpos];refine aC ?_;simp (disch:=try exact ac)[and1];by_cases hod:(n:Int) % 2=1
  ·have hod':n % 2=1:=aa
   have eR:A * Bv * (Bv * Bv) ^ (n / 2)=R:=by
    rw [<- hR]
    conv=>rhs;rw [<- hdm,hod',Yy,Nat.pow_mul,Nat.pow_one]
    rw [Nat.pow_two,Nat.mul_assoc,Zx Bv]
   refine aC ?_;simp (disch:=try exact ac)[hod];refine kg (times h o p A Bv 1 hlen hnv aa ro.now rp.now dA dB _ fun o' h' l1 v1 s1 r1=>?_);have rp1:=rp.step (l1.trans hlen.symm) s1;have ro1:=r1 2 aa;simp (disch:=try exact ac)[];refine aC ?_;by_cases h1:(n:Int) > 1
   ·simp (disch:=try exact ac)[h1];refine kg (times h' p p Bv Bv 2 l1 v1 aa rp1.now rp1.now dB dB _ fun p' h'' l2 v2 s2 r2=>?_);have ro2:=ro1.step (l2.trans l1.symm) s2;simp (disch:=try exact ac)[sh];exact fin _ _ o' p' h'' eR (Yz hA hB) (Yz hB hB) l2 v2 ro2 (r2 1 aa)
   ·have hn1:n=1:=aa;simp (disch:=try exact ac)[h1,sh];refine fin (A * Bv) Bv o' p h' ?_ (Yz hA hB) hB l1 v1 ro1 rp1;rw [<- eR];subst hn1;simp
  ·have hod':n % 2=0:=aa
   have eR:A * (Bv * Bv) ^ (n / 2)=R:=by
    rw [<- hR]
    conv=>rhs;rw [<- hdm,hod',Nat.add_zero,Nat.pow_mul]
    rw [Nat.pow_two]
   refine aC ?_;simp (disch:=try exact ac)[hod];refine aC ?_;have h1:(n:Int) > 1:=aa;simp (disch:=try exact ac)[h1];refine kg (times h p p Bv Bv 2 hlen hnv aa rp.now rp.now dB dB _ fun p' h'' l2 v2 s2 r2=>?_);have ro2:=ro.step (l2.trans hlen.symm) s2;simp (disch:=try exact ac)[sh]
   exact fin _ _ o p' h'' eR hA (Yz hB hB) l2 v2 ro2 (r2 1 aa)
theorem JU {n:Nat} (h:n<18446744073709551616):CP Y F.ii [.d (.int .u64 n)] (I (bn n)):=by
 refine xK ?_;simp (disch:=try exact ac)[ii];refine cd (zR h) ?_;simp (disch:=try exact ac)[] <;> exact ci rfl
theorem sR:ah 2=[50]:=aG
theorem dJ:ah 1=[49]:=aG
theorem Py:CP Y F.ja [S [50]] (I 2):=by
 refine AA ?_;have h:=vY (n:=2) aa;rw [sR] at h;have h2:=zR (n:=2) aa;rw [show bn 2=2 by rfl] at h2;simp (disch:=try exact ac)[ja];refine cd h ?_;simp (disch:=try exact ac)[];refine cd h2 ?_;simp
theorem Mg {n K:Nat} (h:n / 3+1<=K):2 ^ n<10 ^ K:=by
 have h1:2 ^ n=8 ^ (n / 3)*2 ^ (n % 3):=by
  rw [show (8:Nat)=2 ^ 3 from rfl,<- Nat.pow_mul,<- Yy,Yj]
 have h2:8 ^ (n / 3)<=10 ^ (n / 3):=Nat.pow_le_pow_left ae _
 have h3:2 ^ (n % 3)<=4:=by
  have:n % 3<3:=Y3 _ ae;exact Z2 (Z4 ae (show n % 3<=2 by omega)) ae
 have h4:10 ^ (n / 3+1)<=10 ^ K:=Z4 ae h;have h5:=Zs h2 h3
 grind
theorem Qr {n K:Nat} (h:n / 3+1<=K) (hK:0<K):ndg (2 ^ n)<=K:=bi (Mg h) hK
theorem Us {n K:Nat} (h:n / 3+1<=K):2 ^ n<Z ^ K:=Z1 (Mg h) (Nat.pow_le_pow_left ae _)
theorem yn {n:Nat} (hn:n<=4000):2 ^ n<Z ^ 2000∧ndg (2 ^ n)<=2000:=
 ⟨Us (K:=2000) aa,Qr (K:=2000) aa aa⟩
theorem LO {n:Nat} (hn:n<=4000):CP Y F.gr [S [50],I n] (.tup [S (ah (2 ^ n)),I 0]):=by
 refine x8 ?_;by_cases h0:n=0
 ·subst h0;rw [Nat.pow_zero,dJ];simp (disch:=try exact ac)[gr];simp [av]
 have g1:¬ (n:Int)=0:=aa;have g2:¬ (n:Int)<0:=aa;have g3:¬ (n:Int) > 66439:=aa;have n1:¬ ([50]:List UInt8)=[49]:=ae;have n2:¬ ([50]:List UInt8)=[48]:=ae;have ct:=pd (h:=[(0,.none),(0,.none),(0,.none)]) rfl (n:=2) (cap:=1) aG aG;rw [sR] at ct;obtain ⟨p1,p2⟩:=yn hn
 have hli:∀ h:Hp,eY 1 [D.int .u64 0] [(0,V.d (D.int .u64 1))] h=some ([u6 1],h):=fun h=>by rfl
 simp (disch:=try exact ac)[gr,g1,g2,n1,n2];refine cd Py ?_;simp (disch:=try exact ac)[g3,hli];refine kg (gL (e:=0) (b:=.none) ct rfl ?_);rw [List.length_map,cr];simp (disch:=try exact ac)[]
 have nv:NV [(1,.data 1 ((aY 1 2).map u6) true false),(0,.none),(0,.none)]:=by
  intro j x hj b';rcases Xd.2 ⟨j,hj⟩ with hm;simp only [Zr,Y6,or_false] at hm;rcases hm with rfl | rfl | rfl <;> rfl
 refine lo (Nv _ n 1 2 (lst u6 [1]) _ [(1,.data 1 ((aY 1 2).map u6) true false),(0,.none),(0,.none)] (2 ^ n) (by rw [Xp]) ae ae p1 aa rfl nv ?_ ?_ (fun o' h' h2 hl hr hv=>?_) _ rfl)
 ·intro h' _ _;rw [show dig Z 1=[1] by rfl];simp [Kz]
 ·exact RdN.new (s:=1) (t:=0) ae rfl ae
 ·have hl1:¬ (ndg (2 ^ n):Int) > 20000:=aa;have lt:=jq (2 ^ n);have tx:=sw (n:=2 ^ n) (Zf (fN p1) ae);generalize 2 ^ n=m at *;simp (disch:=try exact ac)[];refine cdz (by simp only [aH,hr];rfl) tx ?_;rw [show gP (S (ah m))=true from rfl,if_pos rfl];simp (disch:=try exact ac)[lt,hl1];simp [av]
theorem wm {n:Nat} (hn:n<=4000):CP Y F.gT [S [50],I n] (.tup [S (ah (2 ^ n)),I 0]):=by
 refine Be ?_;have sp:=nN 2;rw [sR] at sp;have g2:¬ (n:Int)<0:=aa;have g3:¬ (n:Int) > 4000:=aa;obtain ⟨p1,p2⟩:=yn hn;have q:((4000:Int).tdiv 1)=4000:=ae;simp (disch:=try exact ac)[gT,g2];refine cd sp ?_;simp (disch:=try exact ac)[g3,q];refine cd (LO hn) ?_;simp (disch:=try exact ac)[]
 refine cd (Oe _) ?_;simp [av]
def dgF (unit two:Nat):Nat->Nat->Nat->Nat->Option Nat
 | 0,_,_,out=>some out
 | r+1,low,high,out=>
  cond (Nat.ble two (low*low / unit)) (dgF unit two r (low*low / unit / 2) ((high*high / unit+1) / 2+1) (out+out+1))
   (cond (Nat.ble two (high*high / unit+1)) none (dgF unit two r (low*low / unit) (high*high / unit+1) (out+out)))
def xX (p n more:Nat):Option Nat:=dgF (2 ^ more) (2 ^ more+2 ^ more) n (p*2 ^ (more-(bn p-1))) (p*2 ^ (more-(bn p-1))) (bn p-1)
def dgV:Option Nat->V
 | some v=>.tup [S (ah v),B true]
 | none=>.tup [S [],B false]
theorem pr {a b:Nat} (ha:ndg a<999999) (hb:ndg b<999999):CP Y F.bR [S (ah a),S (ah b)] (S (ah (a+b))):=by
 have:=pq (z:=(a:Int)) (w:=(b:Int)) (by trivial) (by trivial);trivial
theorem re {a b:Nat} (ha:ndg a<400000) (hb:ndg b<400000):CP Y F.aE [S (ah a),S (ah b)] (S (ah (a*b))):=by
 have:=nT (z:=(a:Int)) (w:=(b:Int)) (by trivial) (by trivial);trivial
theorem po {a b:Nat} (h0:0<b) (ha:ndg a<900000) (hb:ndg b<900000):CP Y F.aP [S (ah a),S (ah b)] (.tup [S (ah (a / b)),S (ah (a % b)),I 0]):=by
 grind [pV,fE]
theorem oM {a b:Nat}:ndg (a*b)<=ndg a+ndg b:=by
 have h3:a*b<10 ^ (ndg a+ndg b):=by rw [Yy];exact Yt (b6 a) (b6 b)
 exact bi h3 (by grind [iT])
theorem Pe {a b:Nat}:decide (0<=Big.cmp a b)=Nat.ble b a:=by
 grind [Nat.ble_eq,AJ,cmp_eq,AK]
theorem Gh {n k:Nat} (h:ndg n<=k):ndg (n+n+1)<=k+1:=by
 have h1:n<10 ^ k:=Z1 (b6 n) (Z4 ae h);exact bi aa aa
theorem xr {unit two N W:Nat} (hu:2<=unit) (htwo:two=unit+unit) (hW:ndg two<=W) (hW2:W<100000) (hN:N<100000) (k:KL):∀ (r i low high out:Nat),i+r=N->low<=high->high<two->ndg out<=W+i ->
  (∀ v,dgF unit two r low high out=some v->ndg v<=W+N->k (.exit 0) [S (ah v)] [])->(dgF unit two r low high out=none->k .ret [S [],B false] []) ->
  lp (lC (CX Y) (S (ah unit)) (S (ah two)) (I N)) [] [] [S (ah low),S (ah high),S (ah out),I i] [] k
 | 0,i,low,high,out,hi,hlh,hht,ho,h0,h1=>by
  have hiN:¬ (i:Int)<(N:Int):=aa;refine ax ?_;simp (disch:=try exact ac)[lC,hiN];exact h0 out rfl aa
 | r+1,i,low,high,out,hi,hlh,hht,ho,h0,h1=>by
  have hiN:(i:Int)<(N:Int):=aa;have ih:=xr hu htwo hW hW2 hN k r (i+1);have u1:ndg unit<=W:=Z2 (cS aa) hW;have u2:ndg low<=W:=Z2 (cS aa) hW;have u3:ndg high<=W:=Z2 (cS aa) hW;have m1:=re (a:=low) (b:=low) aa aa;have m2:=re (a:=high) (b:=high) aa aa
  have w1:ndg (low*low)<=W+W:=Z2 oM aa;have w2:ndg (high*high)<=W+W:=Z2 oM aa;have d1:=po (a:=low*low) (b:=unit) aa aa aa;have d2:=po (a:=high*high) (b:=unit) aa aa aa;have lowle:low*low / unit<=high*high / unit:=Nat.div_le_div_right (Zs hlh hlh)
  have hi4:high*high / unit+4<=4*unit:=by
   have e1:high*high<=(2*unit-1)*(2*unit-1):=Zs aa aa
   have e2:(2*unit-1)*(2*unit-1)+4*unit=4*unit*unit+1:=by
    obtain ⟨x,hx⟩:∃ x,unit=x+1:=⟨unit-1,aa⟩;subst hx;rw [show 2*(x+1)-1=2*x+1 by omega];simp only [Nat.add_mul,Zp,X8,Xp,Nat.mul_assoc,Za x 2];omega
   have e3:high*high<(4*unit-3)*unit:=by
    rw [Nat.sub_mul];have:4*unit*unit≥3*unit:=Z0 _ aa;omega
   have:=(Xw aa).2 e3;omega
  have eqF:dgF unit two (r+1) low high out=cond (Nat.ble two (low*low / unit)) (dgF unit two r (low*low / unit / 2) ((high*high / unit+1) / 2+1) (out+out+1))
   (cond (Nat.ble two (high*high / unit+1)) none (dgF unit two r (low*low / unit) (high*high / unit+1) (out+out))):=rfl
  rw [eqF] at h0 h1;generalize low*low / unit=L1 at *;generalize high*high / unit=H0 at *;have t2:ndg (two+two)<=W+1:=oN hW hW;have v1:ndg L1<=W+1:=Z2 (cS aa) t2;have v2:ndg H0<=W+1:=Z2 (cS aa) t2;have v3:ndg (H0+1)<=W+1:=Z2 (cS aa) t2;have a1:=pr (a:=H0) (b:=1) aa (by simp [uP]);rw [dJ] at a1
  have a2:=pr (a:=out) (b:=out) aa aa;have vo:ndg (out+out)<=W+i+1:=oN ho ho;have a3:=pr (a:=out+out) (b:=1) aa (by simp [uP]);rw [dJ] at a3;have c1:=E5 (a:=L1) (b:=two) aa aa;have c2:=E5 (a:=H0+1) (b:=two) aa aa;have g1:=Pe (a:=L1) (b:=two);have g2:=Pe (a:=H0+1) (b:=two)
  have d3:=po (a:=L1) (b:=2) aa aa (by rw [show ndg 2=1 by decide +kernel];omega);have d4:=po (a:=H0+1) (b:=2) aa aa (by rw [show ndg 2=1 by decide +kernel];omega);rw [sR] at d3 d4;have v4:ndg ((H0+1) / 2)<=W+1:=Z2 (cS aa) t2;have a4:=pr (a:=(H0+1) / 2) (b:=1) aa (by simp [uP]);rw [dJ] at a4
  generalize Big.cmp L1 two=C1 at *;generalize Big.cmp (H0+1) two=C2 at *;refine ax ?_;simp (disch:=try exact ac)[lC,hiN];refine aC ?_;simp (disch:=try exact ac)[];refine cd m1 ?_;simp (disch:=try exact ac)[];refine cd d1 ?_;simp (disch:=try exact ac)[];refine cd m2 ?_
  simp (disch:=try exact ac)[];refine cd d2 ?_;simp (disch:=try exact ac)[];refine cd a1 ?_;simp (disch:=try exact ac)[];refine cd a2 ?_;simp (disch:=try exact ac)[];refine aC ?_;simp (disch:=try exact ac)[];refine cd c1 ?_;simp (disch:=try exact ac)[];refine aC ?_
  cases q1:Nat.ble two L1 with
  | true=>
   rw [q1] at g1 h0 h1;simp only [cond_true] at h0 h1;have g1':0<=C1:=by simpa using g1
   have b1:two<=L1:=Nat.le_of_ble_eq_true q1;simp (disch:=try exact ac)[g1'];refine cd a3 ?_;simp (disch:=try exact ac)[];refine cd d3 ?_;simp (disch:=try exact ac)[];refine cd d4 ?_;simp (disch:=try exact ac)[];refine cd a4 ?_;simp (disch:=try exact ac)[]
   have:=ih (L1 / 2) ((H0+1) / 2+1) (out+out+1) aa aa aa (Gh ho) h0 h1;trivial
  | false=>
   rw [q1] at g1 h0 h1;simp only [cond_false] at h0 h1;have g1':¬ 0<=C1:=by simpa using g1
   simp (disch:=try exact ac)[g1'];refine cd c2 ?_;simp (disch:=try exact ac)[];cases q2:Nat.ble two (H0+1) with
   | true=>
    rw [q2] at g2 h1;have g2':0<=C2:=by simpa using g2
    simp (disch:=try exact ac)[g2']
    grind
   | false=>
    rw [q2] at g2 h0 h1;simp only [cond_false] at h0 h1;have g2':¬ 0<=C2:=by simpa using g2
    have b2:¬ two<=H0+1:=fun h=>by simp_all [Nat.ble_eq_true_of_le]
    simp (disch:=try exact ac)[g2'];have:=ih L1 (H0+1) (out+out) aa aa aa aa h0 h1;trivial
theorem Lh (v:Nat) (h:Hp):out (dgV (some v)) (.tup [S (ah v),B true]) h:=av rfl rfl
theorem Li (h:Hp):out (dgV none) (.tup [S [],B false]) h:=av rfl rfl
theorem ID {p n more:Nat} (hp:2<=p) (hp2:p<1000000) (hm1:30<=more) (hm:more<=4000) (hn:n<=4000):CP Y F.size_digits [I p,I n,I more] (dgV (xX p n more)):=by
 refine Bo ?_;obtain ⟨hk0,hpk,hk1⟩:=lH (n:=p) aa
 have hk2:bn p<=20:=by
  rcases Zl 20 (bn p) with h | h
  ·have:2 ^ 20<=2 ^ (bn p-1):=Z4 ae aa;omega
  ·exact h
 obtain ⟨kk,hkk⟩:∃ kk,kk=bn p-1:=⟨_,rfl⟩;obtain ⟨mk,hmk⟩:∃ mk,mk=more-kk:=⟨_,rfl⟩;have e1:((bn p:Nat):Int)-1=(kk:Int):=aa;have e2:(more:Int)-(kk:Int)=(mk:Int):=aa;have hcv:IntKind.wrap .u64 (p:Int)=(p:Int):=Hl aa aa;have lb:=JU (n:=p) aa;have pw:=wm hm;have pw2:=wm (n:=mk) aa;have b1:=(yn hm).2
 have b2:=(yn (n:=mk) aa).2;have ad:=pr (a:=2 ^ more) (b:=2 ^ more) aa aa;have op:=H4 (n:=p) aa;have ok:=H4 (n:=kk) aa;have np:ndg p<=6:=bi aa ae;have nk:ndg kk<=2:=bi aa ae;have ml:=re (a:=p) (b:=2 ^ mk) aa aa;have b3:ndg (2 ^ more+2 ^ more)<=2000+1:=oN b1 b1
 have hlt:p*2 ^ mk<2 ^ more+2 ^ more:=by
  have h1:p*2 ^ mk<2 ^ bn p*2 ^ mk:=(Nat.mul_lt_mul_right (Yk ae)).2 hpk;rw [<- Yy,show bn p+mk=more+1 by omega,Nat.pow_succ] at h1;omega
 have hu:2<=2 ^ more:=by
  have:2 ^ 1<=2 ^ more:=Z4 ae aa;omega
 have eF:xX p n more=dgF (2 ^ more) (2 ^ more+2 ^ more) n (p*2 ^ mk) (p*2 ^ mk) kk:=by
  unfold xX;rw [<- hkk,<- hmk]
 rw [eF];generalize 2 ^ more=unit at *;generalize 2 ^ mk=pm at *;generalize p*pm=low at *;simp (disch:=try exact ac)[size_digits,hcv];refine cd lb ?_;simp (disch:=try exact ac)[e1];refine cd pw ?_;simp (disch:=try exact ac)[];refine cd ad ?_;simp (disch:=try exact ac)[e2];refine cd pw2 ?_
 simp (disch:=try exact ac)[];refine cd op ?_;simp (disch:=try exact ac)[];refine cd ml ?_;simp (disch:=try exact ac)[];refine cd ok ?_;simp (disch:=try exact ac)[];refine lo (xr hu rfl (W:=2001) b3 aa (N:=n) aa _ n 0 low low kk aa (Z7 _) hlt aa (fun v hv _=>?_) (fun hv=>?_))
 ·rw [hv];simp (disch:=try exact ac)[];exact Lh v _
 ·rw [hv];simp (disch:=try exact ac)[];exact Li _
def Eg (p n:Nat):Option Nat:=if p=2 then some (2 ^ n) else xX p n (n+64)
theorem SY {p n v:Nat} (hp:2<=p) (hp2:p<1000000) (hn:n<=3900) (hv:Eg p n=some v):CP Y F.oe [I p,I n] (S (ah v)):=by
 refine HE ?_;unfold Eg at hv;by_cases h2:p=2
 ·rw [if_pos h2] at hv;simp only [Z9] at hv;have e:((p:Int)=2):=aa;have pw:=wm (n:=n) aa;rw [hv] at pw;simp (disch:=try exact ac)[oe,e];refine cd pw ?_;simp (disch:=try exact ac)[];exact dh rfl
 ·rw [if_neg h2] at hv;have e:¬ ((p:Int)=2):=aa;have dg:=ID (p:=p) (n:=n) (more:=n+64) hp hp2 aa aa aa;rw [hv] at dg;obtain ⟨m,hm⟩:∃ m,m=n+64:=⟨_,rfl⟩;rw [<- hm] at dg;have e3:(n:Int)+64=(m:Int):=aa;simp (disch:=try exact ac)[oe,e,e3];refine lo (ax ?_);simp (disch:=try exact ac)[w7];refine cd dg ?_
  simp (disch:=try exact ac)[dgV];exact dh rfl
end Go.Vm
