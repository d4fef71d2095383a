/- Signed integers as texts: small ones read, signs, negatives. -/
import Derived.Test.YtaiahkcmdnaooaaGreatDoorQCkBits
import Derived.Test.YtaiahkcmdnaooaaGreatDoorQCkShift
import Derived.Test.YtaiahkcmdnaooaaGreatDoorQT
import Derived.Test.YtaiahkcmdnaooaaGreatDoorQTSmB
set_option linter.unusedVariables false
set_option linter.unusedSimpArgs false
namespace Go.Vm
open Go Go.Am Go.Big
theorem Rt {n w:Nat} (h1:1<=w) (h2:w<=17) (hn:n<10 ^ w):CP Y F.fN [S (45::c8 n w)] (.tup [I (-(n:Int)),.d (.pl .nilIface)]):=by
 refine qS ?_;have hl:=B8 w n;have hlt:=Ag w n;have hh:=BJ w n hn;have he:=QT n w;have hD:=FX w n;have hn17:n<10 ^ 17:=Z0 hn (Z2 ae h2);simp only [Nat.reducePow] at hn17;generalize c8 n w=L at *;generalize ym n w=l at *;have hlen:L.length=w:=by rw [hD];simpa using hl
 have hi:ixS (S (45::L)) (.d (.int .i64 0))=some (.d (.int .u8 45)):=by simp [ixS]
 have hlw:lI (S (45::L))=some (I (w+1:Nat)):=by rw [FF];simp [hlen]
 have hsl:slS (S (45::L)) (some (.d (.int .i64 1))) none=some (S L):=by
  have:(1:Int)<=(L.length:Int)+1:=aa;simp [slS,boV,this]
 have hl2:lI (S L)=some (I w):=by rw [FF,hlen]
 simp (disch:=try exact ac)[fN,hlw,hi]
 have hcv:∀ (k:V->Hp->Prop),cvB (S L) [] k=k (lst f8 l) []:=by
  intro k
  have:V.d (.sl L.length (L.map fun b=>.int .u8 b.toNat))=lst f8 l:=by
   unfold lst;rw [hlen,hl,<- he];rfl
  simp only [cvB,this]
 refine fU (l:=[S L]) (h:=[]) (fun q=>?_) ?_
 ·simp (disch:=try exact ac)[hsl,hl2]
 show cvB (S L) [] _
 rw [hcv];simp (disch:=try exact ac)[];refine lo (Ge _ _ rfl l [] 0 au hlt af ?_);simp (disch:=try exact ac)[hi,hh];refine fU (l:=[I (-(n:Int))]) (h:=[]) (fun q=>?_) ?_
 ·simp (disch:=try exact ac)[hh]
 exact ⟨[],by simp [aI,ai,norm]⟩
theorem Rr {n w:Nat} (h1:1<=w) (h2:w<=17) (hn:n<10 ^ w):CP Y F.strconv_Atoi [S (45::c8 n w)] (.tup [I (-(n:Int)),.d (.pl .nilIface)]):=by
 refine tE ?_;simp (disch:=try exact ac)[strconv_Atoi];refine cd (Rt h1 h2 hn) ?_;simp (disch:=try exact ac)[Fq];exact ⟨[],by simp [aI,ai,norm]⟩
def sdg (z:Int):Nat:=ndg z.natAbs+if z<0 then 1 else 0
theorem H8 (z:Int):lI (S (itoa z))=some (I (sdg z)):=by
 rw [FF];unfold itoa sdg;split
 ·simp [ah,aV]
 ·simp [ah,aV]
theorem I8 {z:Int} (h:sdg z<=18):CP Y F.strconv_Atoi [S (itoa z)] (.tup [I z,.d (.pl .nilIface)]):=by
 unfold sdg at h;by_cases hz:z<0
 ·rw [if_pos hz] at h;have:=Rr (n:=z.natAbs) (w:=ndg z.natAbs) (jC _) aa (cx _);rw [show (-(z.natAbs:Int))=z by omega] at this;unfold itoa;rw [if_pos hz];exact this
 ·rw [if_neg hz] at h;have:=Gd (n:=z.natAbs) (w:=ndg z.natAbs) (jC _) aa (cx _);rw [show ((z.natAbs:Nat):Int)=z by omega] at this;unfold itoa;rw [if_neg hz];exact this
theorem pI (z:Int) (w:Nat) (hw:w<=18):CP Y F.bm [S (itoa z),I w] (if sdg z<=w then .tup [I z,B true] else .tup [I 0,B false]):=by
 refine pi ?_;have la:=H8 z;by_cases h:(w:Int)<sdg z
 ·rw [if_neg aa];simp (disch:=try exact ac)[bm,la,h];exact ax rfl rfl
 ·rw [if_pos aa];have ap:=I8 (z:=z) aa;have en:biF .eql (.d (.pl .nilIface)) (.d (.pl .nilIface))=some (.d (.bool true)):=rfl;simp (disch:=try exact ac)[bm,la,h];refine cd (args:=[S (itoa z)]) ap ?_;simp (disch:=try exact ac)[en];exact ax rfl rfl
theorem Bu (z:Int):CP Y F.fj [S (itoa z)] (if sdg z<=9 then .tup [I z,B true] else .tup [I 0,B false]):=by
 refine wT ?_;have la:=H8 z;by_cases h:(9:Int)<sdg z
 ·rw [if_neg aa];simp (disch:=try exact ac)[fj,la,h];exact ax rfl rfl
 ·rw [if_pos aa];have ap:=I8 (z:=z) aa;have en:biF .eql (.d (.pl .nilIface)) (.d (.pl .nilIface))=some (.d (.bool true)):=rfl;simp (disch:=try exact ac)[fj,la,h];refine cd (args:=[S (itoa z)]) ap ?_;simp (disch:=try exact ac)[en];exact ax rfl rfl
theorem wO (z:Int):rdN (itoa z)=decide (z<0):=by
 unfold itoa;split
 ·rename_i h;simp [rdN,h]
 ·rename_i h;have:=pK z.natAbs;unfold rdN;rw [decide_eq_false this,decide_eq_false h]
theorem o5 (z:Int):CP Y F.aO [S (itoa z)] (.tup [B (decide (z<0)),S (ah z.natAbs)]):=by
 have h:=tF (itoa z);rw [wO,qR] at h;exact h
theorem nF {a b:Nat} (h:ah a=ah b):a=b:=by
 have:=congrArg (eE 0) h
 rwa [dC,dC] at this
theorem wP {a b:Int} (h:itoa a=itoa b):a=b:=by
 have h1:=congrArg rdT h;have h2:=congrArg rdN h;rw [qR,qR] at h1;rw [wO,wO] at h2;have h3:=nF h1;have h4:(a<0)↔(b<0):=by simpa using h2
 omega
theorem jZ {n:Nat}:ah n=[48]↔n=0:=by
 constructor
 ·intro h;exact nF (a:=n) (b:=0) (h.trans d9.symm)
 ·rintro rfl;exact d9
def sg (b:Bool) (n:Nat):Int:=if b then -(n:Int) else n
theorem kK (b:Bool) {n:Nat} (hn9:ndg n<1000000):CP Y F.bV [B b,S (ah n)] (S (itoa (sg b n))):=by
 refine vX ?_;cases b with
 | false=>
  have:itoa (sg false n)=ah n:=by simp [sg,itoa]
  rw [this];simp (disch:=try exact ac)[bV] <;> exact dP rfl
 | true=>
  by_cases hn:n=0
  ·subst hn;have e0:itoa (sg true 0)=[48]:=d9;simp (disch:=try exact ac)[bV,d9] <;> exact dP e0.symm
  ·have h0:¬ ah n=[48]:=fun h=>hn (jZ.1 h)
   have:itoa (sg true n)=45::ah n:=by
    unfold itoa sg;rw [if_pos rfl,if_pos aa];simp
   rw [this];have hl:(ah n).length=ndg n:=aV _ _;have ha:biS .add (.d (.str [45])) (S (ah n))=some (S (45::ah n)):=TE [45] (ah n) (by rw [hl];simp;omega);simp (disch:=try exact ac)[bV,h0,ha] <;> exact dP rfl
theorem uB {z:Int} (hz:ndg z.natAbs<1000000):CP Y F.iy [S (itoa z)] (S (itoa (-z))):=by
 refine Gu ?_;simp (disch:=try exact ac)[iy];refine cd (o5 z) ?_;simp (disch:=try exact ac)[];have:=kK (!decide (z<0)) hz
 have e:sg (!decide (z<0)) z.natAbs = -z:=by
  unfold sg;by_cases h:z<0
  ·simp [h];omega
  ·simp [h];omega
 rw [e] at this;refine cd this ?_;exact dP rfl
def bL (n:Nat):Nat:=(dig Z n).length
theorem Ah {n:Nat}:bL n=ndg n / 9+1∨bL n+1=ndg n / 9+1:=by
 unfold bL;have h1:(dig Z n).length<=ndg n / 9+1:=(mU ay).2 (Z0 (cx n) (by rw [xt];exact Z2 ae aa))
 have h2:ndg n<=9*(dig Z n).length∨n=0:=by
  rcases Zf n with h | h
  ·exact .inr h
  ·left;have h3:n<Z ^ (dig Z n).length:=(mU ay).1 (Z7 _);rw [xt] at h3;refine bb h3 ?_;rcases Zf (dig Z n).length with h4 | h4
   ·rw [h4] at h3;simp at h3;omega
   ·omega
 rcases h2 with h2 | rfl
 ·omega
 ·have:ndg 0=1:=aJ;rw [this];right;rfl
theorem Fz (n:Nat):n<Z ^ bL n:=(mU ay).1 (Z7 _)
theorem wV (n:Nat):aY (bL n) n=dig Z n:=by
 have:=lj (Fz n)
 rwa [Zx (by rw [cg];exact Z7 _)] at this
theorem wU {n c:Nat} (h:bL n+1=c):aY c n=dig Z n++[0]:=by
 rw [<- h,xY (Fz n),wV]
theorem Mk {s t n c:Nat} {h:Hp} {q:V->Hp->Prop} {u:PU q} (hst:s≠t) (hg:h[s]? = some (1,.data 1 ((aY c n).map u6) true false)) (ht:h[t]? = some (0,.none)) (hL:bL n=c∨bL n+1=c) (hc:c<1000000)
  (hq:∀ s' e' ex h',h'.length=h.length->h'[s']? = some (e',.data 1 ((dig Z n++[0]).map u6) ex false)->(s'=s∨s'=t)->(∀ j,j≠s'->h'[j]? = h[j]?)->q (.ref s' e' 0 (bL n+1) (bL n+1) (bL n+1)) h') :
  rh (apV false t 1 8 (.ref s 1 0 (bL n) c c) (.d (.sl 1 [u6 0])) h) q u:=by
 have hl:=bH hg;have hl2:=bH ht;rcases hL with hL | hL
 ·subst hL;rw [wV] at hg;refine Mj hg ht rfl aa ?_;exact hq t 1 false _ af (by simp [hl2]) (.inr rfl) (fun j hj=>by rw [List.getElem?_set_ne (Ne.symm hj)])
 ·rw [wU hL] at hg;have hlen:(dig Z n).length=bL n:=rfl;refine Ky (x:=0) hg au aa ?_;rw [<- hL];refine hq s 1 true _ af ?_ (.inl rfl) (fun j hj=>by rw [List.getElem?_set_ne (Ne.symm hj)])
  have e1:(dig Z n++[0]).take (bL n)++[0]++(dig Z n++[0]).drop (bL n+1)=dig Z n++[0]:=by
   rw [<- hlen,V5,Y6 af,Xj]
  rw [e1];simp [hl]
theorem Mh {s t n c k:Nat} {h:Hp} {q:V->Hp->Prop} {u:PU q} (hst:s≠t) (hg:h[s]? = some (1,.data 1 ((aY c n).map u6) true false)) (ht:h[t]? = some (0,.none)) (hL:bL n=c∨bL n+1=c) (hc:c+k<1000000)
  (hq:∀ t1 s' h',h'.length=h.length->(s'=s∨s'=t)->(∀ j,j≠s'->h'[j]? = h[j]?)->(∃ (e':Nat) (l:List Nat) (ex:Bool),h'[s']? = some (e',.data 1 (l.map u6) ex false)) ->
   (∀ P:Hp->Prop,(∀ g,P g->g[s']? = h'[s']?)->RdS P t1 (dig Z n++List.replicate k 0))->q t1 h') :
  rh (apZ false t 1 8 [.int .u64 0] (.ref s 1 0 (bL n) c c) (I (k:Nat)) h) q u:=by
 have hl:=bH hg;have hl2:=bH ht;have hlen:(dig Z n).length=bL n:=rfl;unfold rh apZ;simp only;rw [if_pos ⟨aa,aa⟩];unfold apC;simp only [Int.toNat_natCast]
 have rdOf:∀ {s' e' len cap tot:Nat} {l:List Nat} {ex:Bool} {h':Hp},h'[s']? = some (e',.data 1 (l.map u6) ex false)->tot=l.length->len<=tot->l.take len=dig Z n++List.replicate k 0 ->
   ∀ P:Hp->Prop,(∀ g,P g->g[s']? = h'[s']?)->RdS P (.ref s' e' 0 len cap tot) (dig Z n++List.replicate k 0):=by
  intro s' e' len cap tot l ex h' hg' htot hle htk P hP;refine ⟨?_,fun g i hg2 hi=>?_⟩
  ·have:(dig Z n++List.replicate k 0).length=len:=by rw [<- htk,Zi];omega
   rw [this];rfl
  ·have:=(Aq (h:=g) (cap:=cap) ((hP g hg2).trans hg') htot hle).2 [] i (by rw [htk];exact hi);rw [Xj,htk] at this;exact this
 by_cases hk:k=0
 ·rw [if_pos hk,if_pos aa];subst hk;refine hq _ s h rfl (.inl rfl) (fun _ _=>rfl) ⟨_,_,_,hg⟩ ?_;refine rdOf hg (cg ..).symm aa ?_;rw [List.replicate_zero,Xj];rcases hL with hL | hL
  ·rw [<- hL,wV,<- hlen,Xc]
  ·rw [wU hL,<- hlen,V5]
 ·rw [if_neg hk,Se];simp only [ew hg];rw [if_pos ⟨trivial,by simp [cg],aa,by simp [cg],af⟩];by_cases hin:bL n+k<=c
  ·rw [if_pos hin];have hk1:k=1:=aa;subst hk1;have hL2:bL n+1=c:=aa;simp only [Bool.or_self,Zl,if_false,cG]
   have e1:((aY c n).map u6).take (0+bL n*1)++(List.replicate 1 0).map u6++((aY c n).map u6).drop (0+(bL n+1)*1)=(dig Z n++[0]).map u6:=by
    rw [wU hL2,Zh,Zh,X7,X7,<- hlen];simp [<- List.map_take,<- List.map_drop]
   rw [e1];refine hq _ s _ af (.inl rfl) (fun j hj=>by rw [List.getElem?_set_ne (Ne.symm hj)]) ⟨1,dig Z n++[0],true,by simp [hl]⟩ ?_;refine rdOf (l:=dig Z n++[0]) (ex:=true) (by simp [hl]) au aa ?_;rw [Zx au];rfl
  ·rw [if_neg hin,if_pos aa];simp only [if_true,new,ht]
   have e1:(((aY c n).map u6).drop 0).take (bL n*1)++(List.replicate k 0).map u6=(dig Z n++List.replicate k 0).map u6:=by
    rw [Yg,X7,<- List.map_take,Xg];congr 2;rcases hL with hL | hL
    ·rw [<- hL,wV,<- hlen,Xc]
    ·rw [wU hL,<- hlen,V5]
   rw [e1];have e2:bL n*1+((List.replicate k 0).map u6).length=bL n+k:=af;rw [e2];refine hq _ t _ af (.inr rfl) (fun j hj=>by rw [List.getElem?_set_ne (Ne.symm hj)]) ⟨1,dig Z n++List.replicate k 0,false,by simp [hl2]⟩ ?_;refine rdOf (l:=dig Z n++List.replicate k 0) (ex:=false) (by simp [hl2]) au aa ?_;rw [Zx au]
def NV (h:Hp):Prop:=∀ (j:Nat) (x:Nat × Bk),h[j]? = some x->∀ b,dU b x.2=true
theorem NV.all {h:Hp} (hn:NV h) (b:Nat):(h.all fun x=>dU b x.2)=true:=by
 rw [Zu];intro x hx;obtain ⟨j,hj⟩:=Wp.1 hx;exact hn j x hj b
theorem NV.upd {h h':Hp} (hn:NV h) {s e:Nat} {l:List Nat} {ex fr:Bool} (hs:h'[s]? = some (e,.data 1 (l.map u6) ex fr)) (ho:∀ j,j≠s->h'[j]? = h[j]?):NV h':=by
 intro j x hj b;by_cases e1:j=s
 ·subst e1;rw [hs] at hj;cases hj;rfl
 ·rw [ho j e1] at hj;exact hn j x hj b
theorem Ox {α:Type} {l:List α} {i:Nat} {x:α} (h:l[i]? = some x):l.set i x=l:=by
 apply Xl;intro j;by_cases e:i=j
 ·subst e;rw [List.getElem?_set_self (bH h),h]
 ·rw [List.getElem?_set_ne e]
theorem KZ {h:Hp} {s e:Nat} {ex:Bool} {l:List Nat} (hs:h[s]? = some (e,.data 1 (l.map u6) ex false)):sP h s e ex l=h:=Ox hs
theorem Dw {h:Hp} {s e n m:Nat} {ex:Bool} {L:List Nat} {w:V} (hn:NV h) (hlt:s<h.length) (h3:L.length=n) (b1:val Z L=m) (b2:aE Z L) (hm:n<1000000) (kk:V->V) (hkk:∀ h':Hp,out w (kk (S (ah m))) h') {sl:Nat} :
  cai (CX Y).i (sP h s e ex L) (V.fn F.aA [] []) [.ref s e 0 n n n] sl fun v22 h=>
    cal (CX Y).p h (V.fn F.aL [] []) [v22] fun v23 h=>out w (kk v23) h:=by
 have nv:NV (sP h s e ex L):=hn.upd (pE hlt) (fun j hj=>by unfold sP;rw [List.getElem?_set_ne (Ne.symm hj)]);have tr:=qF (h:=sP h s e ex L) (nv.all _) (s:=s) (e:=e) (ex:=ex) (fr:=false) (pE hlt) h3.symm (len:=n) (cap:=n) (Z7 _) aa (Z7 _);have ht:fR (L.take n)=dig Z m:=by rw [Zx aa,<- b1,oV ay b2]
 rw [ht] at tr;refine mZ tr ?_ af;have lt:m<Z ^ n:=by rw [<- b1,<- h3];exact iw bf b2
 have hl:(dig Z m).length<=n:=(mU ay).2 lt;have sM:=tG (h:=sP h s e ex L) (s:=s) (e:=e) (ex:=ex) (fr:=false) (pE hlt) h3.symm (len:=(dig Z m).length) (cap:=n) hl (Z7 _)
 have ht2:L.take (dig Z m).length=dig Z m:=by
  have e:fR L=dig Z m:=by rw [<- ht,Zx aa]
  obtain ⟨z,hz⟩:=Dt L;rw [e] at hz;rw [hz];exact V5 ..
 rw [ht2] at sM;refine cdz (u:=.mk) (by simp only [ai,sM];rfl) (ul (n:=m) aa) ?_;rw [show gH (S (ah m))=true from rfl,if_pos rfl];exact hkk _
theorem B9 {a b:Nat} (ha:ndg a<1000000) (hb:ndg b<1000000):CP Y F.hO [S (ah a),S (ah b)] (S (ah (a+b))):=by
 refine Dc ?_;have bo:=Al a b;by_cases h18:ndg a<=18∧ndg b<=18
 ·rw [if_pos h18] at bo;have g3:10 ^ ndg a<=10 ^ 18:=Z2 ae h18.1;have g4:10 ^ ndg b<=10 ^ 18:=Z2 ae h18.2;have b1:a<1000000000000000000:=Z0 (cx a) g3;have b2:b<1000000000000000000:=Z0 (cx b) g4;simp (disch:=try exact ac)[hO];refine cd bo ?_;obtain ⟨m,hm⟩:∃ m,a+b=m:=⟨_,rfl⟩
  have em:(a:Int)+(b:Int)=(m:Int):=aa;rw [hm];simp (disch:=try exact ac)[em];refine cd (xO (n:=m) aa) ?_;exact dP rfl
 rw [if_neg h18] at bo;obtain ⟨ca,hca⟩:∃ ca,ca=ndg a / 9+1:=⟨_,rfl⟩;obtain ⟨cb,hcb⟩:∃ cb,cb=ndg b / 9+1:=⟨_,rfl⟩;have cA:=qy (h:=[(0,.none),(0,.none),(0,.none),(0,.none),(0,.none),(0,.none)]) rfl (n:=a) aa hca;have cB:=qy (h:=[(1,.data 1 ((aY ca a).map u6) true false),(0,.none),(0,.none),(0,.none),(0,.none),(0,.none)]) rfl (n:=b) aa hcb
 have LA:bL a=ca∨bL a+1=ca:=by rw [hca];exact Ah
 have LB:bL b=cb∨bL b+1=cb:=by rw [hcb];exact Ah
 have hli:∀ h:Hp,dE 1 [D.int .u64 0] [(0,V.d (D.int .u64 0))] h=some ([u6 0],h):=fun h=>by simp [dE,gG,jw,toD,u6]
 have main:∀ (p q cp cq sp sq:Nat) (h:Hp),p+q=a+b->bL q<=bL p->cp<200000->cq<200000->(bL p=cp∨bL p+1=cp)->(bL q=cq∨bL q+1=cq)->sp<2->sq<2->sp≠sq->h.length=6->NV h ->
   h[sp]? = some (1,.data 1 ((aY cp p).map u6) true false)->h[sq]? = some (1,.data 1 ((aY cq q).map u6) true false)->h[2]? = some (0,.none)->h[3]? = some (0,.none) ->
   apV false 2 1 8 (.ref sp 1 0 (bL p) cp cp) (.d (.sl 1 [u6 0])) h fun v15 h=>
   bnd (bC v15) fun v16=>
   bnd (biI .sub v16 (.d (.int .i64 1))) fun v17=>
   bnd (bC (.ref sq 1 0 (bL q) cq cq)) fun v18=>
   bnd (biI .sub v17 v18) fun v19=>
   apZ false 3 1 8 [.int .u64 0] (.ref sq 1 0 (bL q) cq cq) v19 h fun v20 h=>
   cai (CX Y).i h (.fn F.b9 [] []) [v15,v20,(.d (.int .i64 0))] 4 fun v21 h=>
   cai (CX Y).i h (.fn F.aA [] []) [v15] 5 fun v22 h=>
   cal (CX Y).p h (.fn F.aL [] []) [v22] fun v23 h=>
   out (S (ah (a+b))) v23 h:=by
  intro p q cp cq sp sq h hpq hle hcp hcq LP LQ hsp hsq hne hlen hnv gp gq g2 g3;refine Mk (u:=.mk) (t:=2) aa gp g2 LP aa fun s' e' ex h1 l1 gs' hs' o1=>?_
  obtain ⟨k,hk⟩:∃ k,k=bL p-bL q:=⟨_,rfl⟩;have e1:(bL p:Int)+1-1-(bL q:Int)=(k:Int):=aa;have hr1:bC (.ref s' e' 0 (bL p+1) (bL p+1) (bL p+1))=some (I (bL p+1:Nat)):=rfl;have hr2:bC (.ref sq 1 0 (bL q) cq cq)=some (I (bL q:Nat)):=rfl
  have hb1:biI .sub (I ((bL p+1:Nat):Int)) (.d (.int .i64 1))=some (I (bL p)):=by
   rw [sG,show (((bL p+1:Nat):Int)-1)=(bL p:Int) by omega,qB aa aa]
  have hb2:biI .sub (I (bL p:Int)) (I (bL q:Int))=some (I k):=by
   rw [sG,show ((bL p:Int)-(bL q:Int))=(k:Int) by omega,qB aa aa]
  simp only [hr1,hr2,hb1,hb2,bnd];have nv1:=hnv.upd gs' o1;have hqs:sq≠s':=by rcases hs' with rfl | rfl <;> omega
  have h3s:3≠s':=by rcases hs' with rfl | rfl <;> omega
  refine Mh (u:=.mk) (t:=3) aa ((o1 sq hqs).trans gq) ((o1 3 h3s).trans g3) LQ aa fun t1 s2 h2 l2 hs2 o2 ⟨e2,l2',ex2,g2'⟩ rd=>?_
  have nv2:=nv1.upd g2' o2;have hss:s'≠s2:=by rcases hs2 with rfl | rfl <;> omega
  have gs2:h2[s']? = some (e',.data 1 ((dig Z p++[0]).map u6) ex false):=(o2 s' hss).trans gs';have lt2:s'<h2.length:=bH gs2;have hdl:(dig Z q++List.replicate k 0).length=bL p:=by simp only [Zm,Za];show bL q+k=_;omega
  have sD:aE Z (dig Z q++List.replicate k 0):=o7 (bX ay q) (nm _);have vD:val Z (dig Z q++List.replicate k 0)=q:=by rw [mt,gz ay]
  have rdS:=rd (fun t=>∃ l,t=sP h2 s' e' ex l) (fun g ⟨l,hg⟩=>by rw [hg];unfold sP;rw [List.getElem?_set_ne hss]);obtain ⟨c1,c2,c3⟩:=Rq (n:=bL p) rfl hdl (bX ay p) sD (gz ay p) vD
  have bk:=I6 (at_:=0) (tot:=bL p+1) (l:=dig Z p++[0]) (ex:=ex) (e:=e') (s:=s') (h:=h2) (nv2.all _) lt2 rdS sD (by rw [hdl];omega) aa (by simp [bL]) (o7 (bX ay p) (nm 1));rw [KZ gs2] at bk;refine mZ bk ?_ af;rw [hpq] at c1;exact Dw nv2 lt2 c3 c1 c2 aa (fun v=>v) (fun _=>dP rfl)
 simp (disch:=try exact ac)[hO];refine cd bo ?_;simp (disch:=try exact ac)[];refine kh (ir (e:=0) (b:=.none) cA rfl ?_);rw [List.length_map,cg];simp (disch:=try exact ac)[];refine kh (ir (e:=0) (b:=.none) cB rfl ?_);rw [List.length_map,cg]
 have nv:NV [(1,.data 1 ((aY ca a).map u6) true false),(1,.data 1 ((aY cb b).map u6) true false),(0,.none),(0,.none),(0,.none),(0,.none)]:=by
  intro j x hj b';rcases Wp.2 ⟨j,hj⟩ with hm;simp only [Zr,Zc,or_false] at hm;rcases hm with rfl | rfl | rfl | rfl | rfl | rfl <;> rfl
 by_cases g1:((dig Z a).length:Int)<((dig Z b).length:Int)
 ·simp (disch:=try exact ac)[g1];refine bJ ?_;simp (disch:=try exact ac)[hli];exact main b a cb ca 1 0 _ aa (by unfold bL;omega) aa aa LB LA aa aa aa rfl nv rfl rfl rfl rfl
 ·simp (disch:=try exact ac)[g1];refine bJ ?_;simp (disch:=try exact ac)[hli];exact main a b ca cb 0 1 _ rfl (by unfold bL;omega) aa aa LA LB aa aa aa rfl nv rfl rfl rfl rfl
theorem D2:∀ (s t:List UInt8) (c:Nat),s.length=t.length->s.all m6=true->t.all m6=true->Op.bytesLess s t=decide (eE c s<eE c t)
 | [],[],c,_,_,_=>by simp [Op.bytesLess]
 | x::s,y::t,c,hl,hs,ht=>by
  simp only [List.length_cons,Nat.add_right_cancel_iff] at hl;simp only [List.all_cons,Z8] at hs ht;have hx:=jP.1 hs.1;have hy:=jP.1 ht.1
  have key:∀ (s t:List UInt8) (u v:Nat),s.length=t.length->s.all m6=true->u<v->eE u s<eE v t:=by
   intro s t u v hl hs h;have h1:=qV s u hs;have h2:=BK t v;rw [<- hl] at h2;have h3:(u+1)*10 ^ s.length<=v*10 ^ s.length:=Z4 _ h;omega
  rw [iU,iU];have ex:x<y↔x.toNat<y.toNat:=UInt8.lt_iff_toNat_lt;have ey:y<x↔y.toNat<x.toNat:=UInt8.lt_iff_toNat_lt;rcases Nat.lt_trichotomy x.toNat y.toNat with h | h | h
  ·have:=key s t (c*10+(x.toNat-48)) (c*10+(y.toNat-48)) hl hs.2 aa;rw [decide_eq_true this];simp [Op.bytesLess,ex.2 h]
  ·have e:x=y:=UInt8.toNat_inj.1 h;subst e;rw [<- D2 s t _ hl hs.2 ht.2];simp [Op.bytesLess]
  ·have:=key t s (c*10+(y.toNat-48)) (c*10+(x.toNat-48)) hl.symm ht.2 aa;rw [decide_eq_false aa];have h1:¬ x<y:=fun g=>by have:=ex.1 g;omega
   have h2:¬ x=y:=fun g=>by subst g;omega
   simp [Op.bytesLess,h1,h2]
theorem D5 (n:Nat):(ah n).all m6=true:=ua _ _
theorem DZ {a b:Nat} (h:ndg a=ndg b):Op.bytesLess (ah a) (ah b)=decide (a<b):=by
 rw [D2 (ah a) (ah b) 0 (by rw [ah,ah,aV,aV,h]) (D5 _) (D5 _),dC,dC]
theorem PF {a b:Nat} (h:ndg a<ndg b):a<b:=by
 rcases Zk a b with g | g
 ·exact g
 ·have:=dt g;omega
theorem Cd {a b:Nat} (h:a<b):Big.cmp a b = -1:=if_pos h
theorem Ce {a b:Nat} (h:b<a):Big.cmp a b=1:=(if_neg aa).trans (if_pos h)
theorem cmp_eq {a:Nat}:Big.cmp a a=0:=(if_neg aa).trans (if_neg aa)
theorem uM {a b:Nat} (ha:ndg a<1000000) (hb:ndg b<1000000):CP Y F.bR [S (ah a),S (ah b)] (I (Big.cmp a b)):=by
 refine xe ?_;have la:=jY a;have lb:=jY b;by_cases hl:ndg a=ndg b
 ·have h1:=DZ hl;have h2:=DZ hl.symm;have e1:biS .lss (S (ah a)) (S (ah b))=some (.d (.bool (decide (a<b)))):=by rw [<- h1];rfl
  have e2:biS .gtr (S (ah a)) (S (ah b))=some (.d (.bool (decide (b<a)))):=by
   have h3:(ah a == ah b)=decide (a=b):=by
    rw [Yu];simp only [beq_iff_eq,decide_eq_true_eq];exact ⟨nF,fun h=>by rw [h]⟩
   have h4:decide (b<a) = !(decide (a<b) || decide (a=b)):=by
    rw [Yu];simp only [decide_eq_true_eq,Y5,Bool.or_eq_false_iff,decide_eq_false_iff_not];omega
   rw [h4,<- h1,<- h3];rfl
  rw [hl] at la;by_cases g1:a<b
  ·simp (disch:=try exact ac)[bR,la,lb,e1,e2,g1];exact bU (Cd g1).symm
  ·by_cases g2:b<a
   ·simp (disch:=try exact ac)[bR,la,lb,e1,e2,g1,g2];exact bU (Ce g2).symm
   ·simp (disch:=try exact ac)[bR,la,lb,e1,e2,g1,g2];have:a=b:=aa;subst this;exact bU cmp_eq.symm
 ·have hne:¬ ((ndg a:Int)=(ndg b:Int)):=aa;rcases Zk (ndg a) (ndg b) with h | h
  ·have h3:=PF h;have m1:mxI true [.d (.int .i64 (-1)),I ((ndg a:Int)-ndg b)]=some (I (-1)):=by simp [mxI,mx2];omega
   have m2:mxI false [.d (.int .i64 1),I (-1)]=some (I (-1)):=rfl;simp (disch:=try exact ac)[bR,la,lb,hne,m1,m2];exact bU (Cd h3).symm
  ·have h3:b<a:=PF aa;have m1:mxI true [.d (.int .i64 (-1)),I ((ndg a:Int)-ndg b)]=some (I ((ndg a:Int)-ndg b)):=by simp [mxI,mx2];omega
   have m2:mxI false [.d (.int .i64 1),I ((ndg a:Int)-ndg b)]=some (I 1):=by simp [mxI,mx2];omega
   simp (disch:=try exact ac)[bR,la,lb,hne,m1,m2];exact bU (Ce h3).symm
theorem HI:1<Z:=ay
theorem N5 {A D:List Nat} {a b n:Nat} (hA:A.length=n) (hD:D.length=n) (sA:aE Z A) (sD:aE Z D) (va:val Z A=a) (vb:val Z D=b) (hba:b<=a) :
  val Z (gT 1 0 D (D.length+1) 0 0 0 (A++[0])).2=a-b∧aE Z (gT 1 0 D (D.length+1) 0 0 0 (A++[0])).2∧(gT 1 0 D (D.length+1) 0 0 0 (A++[0])).2.length=n+1:=by
 have sA0:aE Z (A++[0]):=o7 sA (nm 1);have l2:=iw bf sD;rw [vb,hD] at l2
 obtain ⟨h1,h2,h3,h4⟩:=AI (g:=1) (at_:=0) HI sD (D.length+1) 0 0 0 (A++[0]) au bf (Yn _) sA0 (by
  rw [Yg,vb,hD,Xz,Zh,Nat.pow_succ];exact Z0 l2 (Zd _ bf))
 have e2:val Z (A++[0])=a:=by rw [show ([0]:List Nat)=List.replicate 1 0 from rfl,mt,va]
 have hl:(gT 1 0 D (D.length+1) 0 0 0 (A++[0])).2.length=n+1:=by rw [h1.1];simp [hA]
 refine ⟨?_,h2,hl⟩;have h5:=iw bf h2;rw [hl] at h5;rw [e2,Yg,vb,hD] at h4;rw [hD] at h3 h5 ⊢;generalize val Z (gT 1 0 D (n+1) 0 0 0 (A++[0])).2=x at *;generalize (gT 1 0 D (n+1) 0 0 0 (A++[0])).1=c at *;simp only [Zh,Nat.add_zero,Nat.pow_zero,Xz] at h4;rcases Zf c with h | h
 ·subst h;omega
 ·have:c=1:=aa;subst this;rw [X7] at h4;omega
theorem yj {a b:Nat} (hba:b<=a) (ha:ndg a < 1000000):CP Y F.iO [S (ah a),S (ah b)] (.tup [S (ah (a - b)),I 0]):=by
 have hb:ndg b < 1000000:=Zb (dt hba) ha;refine C6 ?_;have bo:=Al a b;have dc:=uM ha hb
 have hc:¬ Big.cmp a b < 0:=by
  unfold Big.cmp;rw [if_neg aa];split <;> omega
 have hc2:(-1:Int)<=Big.cmp a b∧Big.cmp a b<=1:=by
  unfold Big.cmp;split
  ·omega
  ·split <;> omega
 generalize Big.cmp a b=cc at *;simp (disch:=try exact ac)[iO];refine cd dc ?_;simp (disch:=try exact ac)[hc];by_cases h18:ndg a<=18∧ndg b<=18
 ·rw [if_pos h18] at bo;have g3:10 ^ ndg a<=10 ^ 18:=Z2 ae h18.1;have b1:a < 1000000000000000000:=Z0 (cx a) g3;refine cd bo ?_;obtain ⟨m,hm⟩:∃ m,a - b=m:=⟨_,rfl⟩;have em:(a:Int) - (b:Int)=(m:Int):=aa;rw [hm];simp (disch:=try exact ac)[em];refine cd (xO (n:=m) aa) ?_;exact ax rfl rfl
 rw [if_neg h18] at bo;obtain ⟨ca,hca⟩:∃ ca,ca=ndg a / 9+1:=⟨_,rfl⟩;obtain ⟨cb,hcb⟩:∃ cb,cb=ndg b / 9+1:=⟨_,rfl⟩;have cA:=qy (h:=[(0,.none),(0,.none),(0,.none),(0,.none),(0,.none),(0,.none),(0,.none)]) rfl (n:=a) aa hca;have LA:bL a=ca∨bL a+1=ca:=by rw [hca];exact Ah
 have LB:bL b=cb∨bL b+1=cb:=by rw [hcb];exact Ah
 have hle:bL b<=bL a:=(mU ay).2 (Zb hba (Fz a));have hli:∀ h:Hp,dE 1 [D.int .u64 0] [(0,V.d (D.int .u64 0))] h=some ([u6 0],h):=fun h=>by simp [dE,gG,jw,toD,u6]
 refine cd bo ?_;simp (disch:=try exact ac)[];refine kh (ir (e:=0) (b:=.none) cA rfl ?_);rw [List.length_map,cg];simp (disch:=try exact ac)[hli]
 have nv:NV [(1,.data 1 ((aY ca a).map u6) true false),(0,.none),(0,.none),(0,.none),(0,.none),(0,.none),(0,.none)]:=by
  intro j x hj b';rcases Wp.2 ⟨j,hj⟩ with hm;simp only [Zr,Zc,or_false] at hm;rcases hm with rfl | rfl | rfl | rfl | rfl | rfl | rfl <;> rfl
 refine Mk (s:=0) (t:=1) (n:=a) (c:=ca) aa rfl rfl LA aa fun s1 e1 ex1 h1 l1 g1 hs1 o1=>?_
 have nv1:=nv.upd g1 o1;have k1:∀ j,2<=j->h1[j]? = ([(1,.data 1 ((aY ca a).map u6) true false),(0,.none),(0,.none),(0,.none),(0,.none),(0,.none),(0,.none)]:Hp)[j]?:=fun j hj=>o1 j aa
 have hr1:bC (.ref s1 e1 0 (bL a+1) (bL a+1) (bL a+1))=some (I (bL a+1:Nat)):=rfl
 have hb1:biI .sub (I ((bL a+1:Nat):Int)) (.d (.int .i64 1))=some (I (bL a)):=by
  rw [sG,show (((bL a+1:Nat):Int) - 1)=(bL a:Int) by omega,qB aa aa]
 -- the second number, twice
 have cB:=qy (h:=h1) (nv1.all _) (n:=b) aa hcb;refine kh (u:=.mk) (ir (e:=0) (b:=.none) cB (k1 2 aa) ?_);rw [List.length_map,cg];have l2:(h1.set 2 (1,.data 1 ((aY cb b).map u6) true false)).length=7:=by simp [l1]
 have n2:(2:Nat) < h1.length:=by rw [l1];simp
 have g2:(h1.set 2 (1,.data 1 ((aY cb b).map u6) true false))[2]? = some (1,.data 1 ((aY cb b).map u6) true false):=by simp [n2]
 have o2:∀ j,j≠2->(h1.set 2 (1,.data 1 ((aY cb b).map u6) true false))[j]? = h1[j]?:=fun j hj=>by rw [List.getElem?_set_ne (Ne.symm hj)]
 have nv2:=nv1.upd g2 o2;generalize h1.set 2 (1,.data 1 ((aY cb b).map u6) true false)=h2 at *
 show bnd (bC (.ref s1 e1 0 (bL a+1) (bL a+1) (bL a+1))) _
 simp only [hr1,hb1,bnd];have cB2:=qy (h:=h2) (nv2.all _) (n:=b) aa hcb;refine kh (u:=.mk) (ir (e:=0) (b:=.none) cB2 ((o2 3 ae).trans (k1 3 aa)) ?_);rw [List.length_map,cg];have n3:(3:Nat) < h2.length:=by rw [l2];simp
 have g3:(h2.set 3 (1,.data 1 ((aY cb b).map u6) true false))[3]? = some (1,.data 1 ((aY cb b).map u6) true false):=by simp [n3]
 have o3:∀ j,j≠3->(h2.set 3 (1,.data 1 ((aY cb b).map u6) true false))[j]? = h2[j]?:=fun j hj=>by rw [List.getElem?_set_ne (Ne.symm hj)]
 have nv3:=nv2.upd g3 o3;generalize h2.set 3 (1,.data 1 ((aY cb b).map u6) true false)=h3 at *;obtain ⟨k,hk⟩:∃ k,k=bL a - bL b:=⟨_,rfl⟩;have hr2:bC (.ref 3 (0+1) 0 (bL b) cb cb)=some (I (bL b:Nat)):=rfl
 have hb2:biI .sub (I (bL a:Int)) (I (bL b:Int))=some (I k):=by
  rw [sG,show ((bL a:Int) - (bL b:Int))=(k:Int) by omega,qB aa aa]
 simp only [show bC (V.ref 3 (0+1) 0 (dig Z b).length cb cb)=some (I (bL b:Nat)) from rfl,hb2];have q2:h3[2]? = some (1,.data 1 ((aY cb b).map u6) true false):=(o3 2 ae).trans g2;have q4:h3[4]? = some (0,.none):=((o3 4 ae).trans (o2 4 ae)).trans (k1 4 aa)
 refine Mh (u:=.mk) (s:=2) (t:=4) aa q2 q4 LB aa fun t1 s4 h4 l4 hs4 o4 ⟨e4,l4',ex4,g4⟩ rd=>?_
 have nv4:=nv3.upd g4 o4;have hss:s1≠s4:=by rcases hs1 with rfl | rfl <;> rcases hs4 with rfl | rfl <;> omega
 have h12:s1≠2∧s1≠3:=by rcases hs1 with rfl | rfl <;> omega
 have gs:h4[s1]? = some (e1,.data 1 ((dig Z a++[0]).map u6) ex1 false):=(((o4 s1 hss).trans (o3 s1 h12.2)).trans (o2 s1 h12.1)).trans g1;have lt4:=bH gs;have hdl:(dig Z b++List.replicate k 0).length=bL a:=by simp only [Zm,Za];show bL b+k=_;omega
 have sD:aE Z (dig Z b++List.replicate k 0):=o7 (bX ay b) (nm _);have vD:val Z (dig Z b++List.replicate k 0)=b:=by rw [mt,gz ay]
 have rdS:=rd (fun t=>∃ l,t=sP h4 s1 e1 ex1 l) (fun g ⟨l,hg⟩=>by rw [hg];unfold sP;rw [List.getElem?_set_ne hss]);obtain ⟨c1,c2,c3⟩:=N5 (n:=bL a) rfl hdl (bX ay a) sD (gz ay a) vD hba
 have bk:=GP (g:=1) (at_:=0) (tot:=bL a+1) (l:=dig Z a++[0]) (ex:=ex1) (e:=e1) (s:=s1) (h:=h4) (nv4.all _) lt4 rdS sD HI (by rw [hdl];omega) aa (by simp [bL]) (o7 (bX ay a) (nm 1));rw [KZ gs] at bk;refine kh (u:=.mk) (mZ bk ?_ af);exact Dw nv4 lt4 c3 c1 c2 aa (fun v=>.tup [v,I 0]) (fun _=>ax rfl rfl)
theorem uq {z:Int} {w:Nat} (h:sdg z<=w):z.natAbs<10 ^ w:=by
 have:ndg z.natAbs<=w:=by unfold sdg at h;omega
 exact Z0 (cx _) (Z2 ae this)
theorem mO {z:Int} (h1 : -9223372036854775808<z) (h2:z<9223372036854775808):CP Y F.dG [I z] (S (itoa z)):=by
 refine Av ?_;simp (disch:=try exact ac)[dG];refine cd (Ac h1 h2) ?_;exact dP rfl
theorem qc {a b k:Nat} (ha:ndg a<=k) (hb:ndg b<=k):ndg (a+b)<=k+1:=by
 have h1:a<10 ^ k:=Z0 (cx a) (Z2 ae ha);have h2:b<10 ^ k:=Z0 (cx b) (Z2 ae hb);exact bb (by rw [Nat.pow_succ];omega) aa
theorem Rz {z w:Int} (hz:ndg z.natAbs<999999) (hw:ndg w.natAbs<999999) : 
  cal (CX Y).p [] (.fn F.aO [] []) [S (itoa z)] fun v6 h=>
  ext v6 0 fun v7=>
  ext v6 1 fun v8=>
  cal (CX Y).p h (.fn F.aO [] []) [S (itoa w)] fun v9 h=>
  ext v9 0 fun v10=>
  ext v9 1 fun v11=>
  bnd (biB .eql v7 v10) fun v12=>
  cnd v12 (
   cal (CX Y).p h (.fn F.hO [] []) [v8,v11] fun v13 h=>
   cal (CX Y).p h (.fn F.bV [] []) [v7,v13] fun v14 h=>
   out (S (itoa (z+w))) v14 h) (
   cal (CX Y).p h (.fn F.bR [] []) [v8,v11] fun v15 h=>
   bnd (biI .lss v15 (.d (.int .i64 0))) fun v16=>
   jn (fun l17 h=>
    cal (CX Y).p h (.fn F.iO [] []) [(ge l17 1),(ge l17 2)] fun v19 h=>
    ext v19 0 fun v20=>
    ext v19 1 fun v21=>
    cal (CX Y).p h (.fn F.bV [] []) [(ge l17 0),v20] fun v22 h=>
    out (S (itoa (z+w))) v22 h) fun q18=>
    cnd v16 (
     q18 [v10,v11,v8] h) (
     q18 [v7,v8,v11] h)):=by
 simp (disch:=try exact ac)[];refine cd (o5 z) ?_;simp (disch:=try exact ac)[];refine cd (o5 w) ?_;have eb:biB .eql (B (decide (z<0))) (B (decide (w<0)))=some (B (decide (z<0) == decide (w<0))):=rfl;simp (disch:=try exact ac)[eb];by_cases hs:(z<0↔w<0)
 ·simp (disch:=try exact ac)[hs];refine cd (B9 (a:=z.natAbs) (b:=w.natAbs) aa aa) ?_;simp (disch:=try exact ac)[];have hk:ndg (z.natAbs+w.natAbs)<=999999:=qc aa aa;refine cd (kK (decide (z<0)) (n:=z.natAbs+w.natAbs) aa) ?_;refine dP ?_;congr 1;unfold sg;by_cases h:z<0
  ·simp [h];omega
  ·simp [h];omega
 ·simp (disch:=try exact ac)[hs];refine cd (uM (a:=z.natAbs) (b:=w.natAbs) aa aa) ?_;simp (disch:=try exact ac)[];by_cases hlt:z.natAbs<w.natAbs
  ·have hc:Big.cmp z.natAbs w.natAbs<0:=by rw [Cd hlt];decide
   refine fU (l:=[B (decide (w<0)),S (ah w.natAbs),S (ah z.natAbs)]) (h:=[]) (fun q=>by simp (disch:=try exact ac)[hc]) ?_;simp (disch:=try exact ac)[];refine cd (yj (a:=w.natAbs) (b:=z.natAbs) aa aa) ?_;simp (disch:=try exact ac)[]
   refine cd (kK (decide (w<0)) (n:=w.natAbs-z.natAbs) (Zb (dt (Nat.sub_le ..)) aa)) ?_;refine dP ?_;congr 1;unfold sg;by_cases h:w<0
   ·simp [h];omega
   ·simp [h];omega
  ·have hc:¬ Big.cmp z.natAbs w.natAbs<0:=by
    rcases Nat.eq_or_lt_of_not_lt hlt with h | h
    ·rw [h,cmp_eq];decide
    ·rw [Ce h];decide
   refine fU (l:=[B (decide (z<0)),S (ah z.natAbs),S (ah w.natAbs)]) (h:=[]) (fun q=>by simp (disch:=try exact ac)[hc]) ?_;simp (disch:=try exact ac)[];refine cd (yj (a:=z.natAbs) (b:=w.natAbs) aa aa) ?_;simp (disch:=try exact ac)[]
   refine cd (kK (decide (z<0)) (n:=z.natAbs-w.natAbs) (Zb (dt (Nat.sub_le ..)) aa)) ?_;refine dP ?_;congr 1;unfold sg;by_cases h:z<0
   ·simp [h];omega
   ·simp [h];omega
theorem tB {z w:Int} (hz:ndg z.natAbs<999999) (hw:ndg w.natAbs<999999):CP Y F.cr [S (itoa z),S (itoa w)] (S (itoa (z+w))):=by
 refine GB ?_;have l1:=pI z 18 ae;have l2:=pI w 18 ae;have tl:=Rz hz hw;simp (disch:=try exact ac)[cr];refine cd l1 ?_;by_cases h1:sdg z<=18
 ·rw [if_pos h1];simp (disch:=try exact ac)[];by_cases h2:sdg w<=18
  ·rw [if_pos h2] at l2;refine bJ ?_;simp (disch:=try exact ac)[];refine cd l2 ?_;have b1:=uq h1;have b2:=uq h2;simp only [Nat.reducePow] at b1 b2;obtain ⟨m,hm⟩:∃ m,z+w=m:=⟨_,rfl⟩;rw [hm];simp (disch:=try exact ac)[hm];refine cd (mO (z:=m) aa aa) ?_;exact dP rfl
  ·rw [if_neg h2] at l2;refine bJ ?_;simp (disch:=try exact ac)[];refine cd l2 ?_;simp (disch:=try exact ac)[];simpa using tl
 ·rw [if_neg h1];simp (disch:=try exact ac)[];refine bJ ?_;simp (disch:=try exact ac)[];simpa using tl
theorem qC {z w:Int} (hz:ndg z.natAbs<400000) (hw:ndg w.natAbs<400000):CP Y F.aH [S (itoa z),S (itoa w)] (S (itoa (z*w))):=by
 refine Gw ?_;have l1:=pI z 9 ae;have l2:=pI w 9 ae;have dm:=Eh (a:=z.natAbs) (b:=w.natAbs) aa aa
 have hk:ndg (z.natAbs*w.natAbs)<1000000:=by
  have h1:=cx z.natAbs;have h2:=cx w.natAbs;have h3:z.natAbs*w.natAbs<10 ^ (ndg z.natAbs+ndg w.natAbs):=by rw [Yx];exact Yh h1 h2
  have:=bb h3 (by have:=jC z.natAbs;omega);omega
 have e:sg (decide (z<0) != decide (w<0)) (z.natAbs*w.natAbs)=z*w:=by
  unfold sg;by_cases h1:z<0 <;> by_cases h2:w<0
  ·simp [h1,h2];rw [Xb aa,Xb aa,Int.neg_mul_neg]
  ·simp [h1,h2];rw [Xb aa,Wi aa,Xw,Int.neg_neg]
  ·simp [h1,h2];rw [Wi aa,Xb aa,Int.mul_neg,Int.neg_neg]
  ·simp [h1,h2];rw [Wi aa,Wi aa]
 have eb:biB .neq (B (decide (z<0))) (B (decide (w<0)))=some (B (decide (z<0) != decide (w<0))):=rfl;have jo:=kK (decide (z<0) != decide (w<0)) hk;rw [e] at jo
 have tail:∀ u:Unit,cal (CX Y).p [] (.fn F.aO [] []) [S (itoa z)] fun v6 h=>
  ext v6 0 fun v7=>
  ext v6 1 fun v8=>
  cal (CX Y).p h (.fn F.aO [] []) [S (itoa w)] fun v9 h=>
  ext v9 0 fun v10=>
  ext v9 1 fun v11=>
  bnd (biB .neq v7 v10) fun v12=>
  cal (CX Y).p h (.fn F.iP [] []) [v8,v11] fun v13 h=>
  cal (CX Y).p h (.fn F.bV [] []) [v12,v13] fun v14 h=>
  out (S (itoa (z*w))) v14 h:=by
  intro _;simp (disch:=try exact ac)[];refine cd (o5 z) ?_;simp (disch:=try exact ac)[];refine cd (o5 w) ?_;simp (disch:=try exact ac)[eb];refine cd dm ?_;simp (disch:=try exact ac)[];refine cd jo ?_;exact dP rfl
 simp (disch:=try exact ac)[aH];refine cd l1 ?_;by_cases h1:sdg z<=9
 ·rw [if_pos h1];simp (disch:=try exact ac)[];by_cases h2:sdg w<=9
  ·rw [if_pos h2] at l2;refine bJ ?_;simp (disch:=try exact ac)[];refine cd l2 ?_;have b1:=uq h1;have b2:=uq h2
   have hmb:(z*w).natAbs<1000000000000000000:=by
    rw [Zn];exact Yh b1 b2
   obtain ⟨m,hm⟩:∃ m,z*w=m:=⟨_,rfl⟩;rw [hm] at hmb ⊢;simp (disch:=try exact ac)[hm];refine cd (mO (z:=m) aa aa) ?_;exact dP rfl
  ·rw [if_neg h2] at l2;refine bJ ?_;simp (disch:=try exact ac)[];refine cd l2 ?_;simp (disch:=try exact ac)[];simpa using tail ()
 ·rw [if_neg h1];simp (disch:=try exact ac)[];refine bJ ?_;simp (disch:=try exact ac)[];simpa using tail ()
theorem cN (n:Nat):itoa (n:Int)=ah n:=by
 unfold itoa;rw [if_neg aa,Int.natAbs_natCast]
theorem R5 (n:Nat):sgn (n:Int)=if n=0 then 0 else 1:=by
 unfold sgn;by_cases h:n=0
 ·simp [h]
 ·rw [if_neg aa,if_neg aa,if_neg h]
theorem G6 (n:Nat):CP Y F.bq [S (ah n)] (I (if n=0 then 0 else 1)):=by
 have:=jN (n:Int)
 rwa [cN,R5] at this
theorem GD {a b:Nat} (ha:ndg a<1000000) (hb:ndg b<1000000):CP Y F.gS [S (ah a),S (ah b)] (I (Big.cmp a b)):=by
 refine yX ?_;have s1:=G6 a;have s2:=G6 b;simp (disch:=try exact ac)[gS];by_cases h1:a=0
 ·rw [if_pos h1] at s1;by_cases h2:b=0
  ·rw [if_pos h2] at s2;refine cd s1 ?_;simp (disch:=try exact ac)[];refine cd s2 ?_;simp (disch:=try exact ac)[];refine cd (o6 a) ?_;simp (disch:=try exact ac)[];refine cd (o6 b) ?_;simp (disch:=try exact ac)[]
   refine fU (l:=[S (ah a),S (ah b)]) (h:=[]) (fun q=>by simp (disch:=try exact ac)[]) ?_;simp (disch:=try exact ac)[];refine cd (uM ha hb) ?_;exact bU rfl
  ·rw [if_neg h2] at s2;refine cd s1 ?_;simp (disch:=try exact ac)[];refine cd s2 ?_;simp (disch:=try exact ac)[];exact bU (Cd aa).symm
 ·rw [if_neg h1] at s1;by_cases h2:b=0
  ·rw [if_pos h2] at s2;refine cd s1 ?_;simp (disch:=try exact ac)[];refine cd s2 ?_;simp (disch:=try exact ac)[];exact bU (Ce aa).symm
  ·rw [if_neg h2] at s2;refine cd s1 ?_;simp (disch:=try exact ac)[];refine cd s2 ?_;simp (disch:=try exact ac)[];refine cd (o6 a) ?_;simp (disch:=try exact ac)[];refine cd (o6 b) ?_;simp (disch:=try exact ac)[]
   refine fU (l:=[S (ah a),S (ah b)]) (h:=[]) (fun q=>by simp (disch:=try exact ac)[]) ?_;simp (disch:=try exact ac)[];refine cd (uM ha hb) ?_;exact bU rfl
theorem BX {a b:Nat} (hb:0<b):(-(a:Int)) / (b:Int)=(if a % b=0 then -((a / b:Nat):Int) else -((a / b+1:Nat):Int))∧(-(a:Int)) % (b:Int)=(if a % b=0 then 0 else ((b-a % b:Nat):Int)):=by
 have h1:=Xy a b;have h2:=Yw a hb;have hbz:(b:Int) > 0:=aa;generalize a % b=r at *;generalize a / b=q at *;by_cases h:r=0
 ·subst h;simp only [if_true]
  have e:(-(a:Int))=(b:Int)*(-(q:Int)):=by
   rw [Int.mul_neg,<- Int.natCast_mul];congr 1;omega
  rw [e];exact ⟨Int.mul_ediv_cancel_left _ aa,Int.mul_emod_right _ _⟩
 ·simp only [if_neg h]
  have e:(-(a:Int))=((b-r:Nat):Int)+(b:Int)*(-((q+1:Nat):Int)):=by
   have:(a:Int)=(b:Int)*q+r:=by rw [<- Int.natCast_mul];omega
   rw [this,Int.mul_neg,Int.natCast_add,Wh];have:((b-r:Nat):Int)=(b:Int)-r:=aa;omega
  have l1:(0:Int)<=((b-r:Nat):Int):=aa;have l2:((b-r:Nat):Int)<(b:Int):=aa;rw [e];constructor
  ·rw [Int.add_mul_ediv_left _ _ aa,Int.ediv_eq_zero_of_lt l1 l2,X3]
  ·rw [Int.add_mul_emod_self_left,Int.emod_eq_of_lt l1 l2]
theorem wD:ndg 1=1:=aJ
theorem uA {a b a' b':List UInt8} {c:Int} {h:Hp} (e1:a'=a) (e2:b'=b):out (.tup [S a,S b,I c]) (.tup [S a',S b',I c]) h:=by
 subst e1;subst e2;exact iI rfl rfl rfl
theorem Te {z:Int} {b:Nat} (hb:0<b) (hz:ndg z.natAbs<900000) (hbd:ndg b<900000) :
   cal (CX Y).p [] (.fn F.aO [] []) [S (itoa z)] fun v7 h=>
   ext v7 0 fun v8=>
   ext v7 1 fun v9=>
   cal (CX Y).p h (.fn F.aO [] []) [S (ah b)] fun v10 h=>
   ext v10 0 fun v11=>
   ext v10 1 fun v12=>
   cal (CX Y).p h (.fn F.eV [] []) [v9,v12] fun v13 h=>
   ext v13 0 fun v14=>
   ext v13 1 fun v15=>
   ext v13 2 fun v16=>
   bnd (biI .neq v16 (.d (.int .i64 0))) fun v17=>
   cnd v17 (
    out (.tup [S (itoa (z / b)),S (itoa (z % b)),I 0]) (.tup [(.d (.str [])),(.d (.str [])),v16]) h) (
    bnd (biB .neq v8 v11) fun v18=>
    gd v18 true h (fun q=>q v15 h) fun v19 h=>
    gd v18 true h (fun q=>bnd (biS .neq v19 (.d (.str [48]))) fun v=>q v h) fun v20 h=>
    bnd (iH v18 v20 (.d (.bool false))) fun v21=>
    jn (fun l22 h=>
     bnd (biB .neq v8 v11) fun v24=>
     cal (CX Y).p h (.fn F.bV [] []) [v24,(ge l22 0)] fun v25 h=>
     cal (CX Y).p h (.fn F.bV [] []) [v11,(ge l22 1)] fun v26 h=>
     out (.tup [S (itoa (z / b)),S (itoa (z % b)),I 0]) (.tup [v25,v26,(.d (.int .i64 0))]) h) fun q23=>
     cnd v21 (
      cal (CX Y).p h (.fn F.hO [] []) [v14,(.d (.str [49]))] fun v27 h=>
      cal (CX Y).p h (.fn F.iO [] []) [v12,v15] fun v28 h=>
      ext v28 0 fun v29=>
      ext v28 1 fun v30=>
      q23 [v27,v29] h) (
      q23 [v14,v15] h)):=by
 have hq:ndg (z.natAbs / b)<=ndg z.natAbs:=dt (Yc ..);have hr:z.natAbs % b<b:=Yw _ hb;have hr2:ndg (z.natAbs % b)<=ndg b:=dt aa
 have eb:biB .neq (B (decide (z<0))) (B false)=some (B (decide (z<0))):=by
  show some (B (decide (z<0) != false))=_
  rw [Bool.bne_false]
 simp (disch:=try exact ac)[];refine cd (o5 z) ?_;simp (disch:=try exact ac)[];refine cd (o6 b) ?_;simp (disch:=try exact ac)[];refine cd (ya (a:=z.natAbs) hb aa aa) ?_;by_cases hneg:z<0
 ·have ez:z = -(z.natAbs:Int):=aa;obtain ⟨d1,d2⟩:=BX (a:=z.natAbs) hb;rw [<- ez] at d1 d2;rw [decide_eq_true hneg] at eb ⊢;by_cases h0:z.natAbs % b=0
  ·rw [if_pos h0] at d1 d2;rw [h0,d9];simp (disch:=try exact ac)[eb];refine fU (l:=[S (ah (z.natAbs / b)),S [48]]) (h:=[]) (fun q=>by simp (disch:=try exact ac)[]) ?_;simp (disch:=try exact ac)[eb];refine cd (kK true (n:=z.natAbs / b) aa) ?_;simp (disch:=try exact ac)[]
   have j0:=kK false (n:=0) aJ;rw [d9] at j0;refine cd j0 ?_;refine uA ?_ ?_
   ·rw [d1];rfl
   ·rw [d2];rfl
  ·rw [if_neg h0] at d1 d2;have h48:¬ ah (z.natAbs % b)=[48]:=fun h=>h0 (jZ.1 h)
   have ad:=B9 (a:=z.natAbs / b) (b:=1) aa (by rw [wD];omega);rw [show ah 1=[49] by decide +kernel] at ad;simp (disch:=try exact ac)[eb,h48];refine bJ ?_;simp (disch:=try exact ac)[h48];refine cd ad ?_;simp (disch:=try exact ac)[];refine cd (yj (a:=b) (b:=z.natAbs % b) aa aa) ?_
   simp (disch:=try exact ac)[eb];have hq1:ndg (z.natAbs / b+1)<=900000+1:=qc aa (by rw [wD];omega);refine cd (kK true (n:=z.natAbs / b+1) aa) ?_;simp (disch:=try exact ac)[];refine cd (kK false (n:=b-z.natAbs % b) (Zb (dt (Nat.sub_le ..)) aa)) ?_;refine uA ?_ ?_
   ·rw [d1];rfl
   ·rw [d2];rfl
 ·rw [decide_eq_false hneg] at eb ⊢;simp (disch:=try exact ac)[eb];refine fU (l:=[S (ah (z.natAbs / b)),S (ah (z.natAbs % b))]) (h:=[]) (fun q=>by simp (disch:=try exact ac)[]) ?_;simp (disch:=try exact ac)[eb];refine cd (kK false (n:=z.natAbs / b) aa) ?_;simp (disch:=try exact ac)[]
  refine cd (kK false (n:=z.natAbs % b) aa) ?_;have ez:z=(z.natAbs:Int):=aa;refine uA ?_ ?_
  ·rw [ez,<- Int.natCast_ediv];rfl
  ·rw [ez,<- Int.natCast_emod];rfl
theorem rz {z:Int} {b:Nat} (hb:0<b) (hz:ndg z.natAbs<900000) (hbd:ndg b<900000):CP Y F.aQ [S (itoa z),S (ah b)] (.tup [S (itoa (z / b)),S (itoa (z % b)),I 0]):=by
 refine Ax ?_;have l1:=pI z 18 ae;have l2:=J3 b 18 ae;have tl:=Te hb hz hbd;have h48:¬ ah b=[48]:=fun h=>by have:=jZ.1 h;omega
 simp (disch:=try exact ac)[aQ,h48];refine cd l1 ?_;by_cases h1:sdg z<=18
 ·rw [if_pos h1];by_cases h2:ndg b<=18
  ·rw [if_pos h2] at l2;simp (disch:=try exact ac)[];refine bJ ?_;simp (disch:=try exact ac)[];refine cd l2 ?_;have b1:=uq h1;have b2:b<10 ^ 18:=Z0 (cx b) (Z2 ae h2);simp only [Nat.reducePow] at b1 b2;have hbz:¬ (b:Int)=0:=aa;obtain ⟨n,hn⟩:∃ n,n=z.natAbs:=⟨_,rfl⟩;rw [<- hn] at b1
   have hq:n / b<=n:=Yc ..;have hr:n % b<b:=Yw _ hb;by_cases hneg:z<0
   ·have ez:z = -(n:Int):=aa;obtain ⟨d1,d2⟩:=BX (a:=n) hb;rw [<- ez] at d1 d2;have q1:z.tdiv (b:Int) = -((n / b:Nat):Int):=by rw [ez,Int.neg_tdiv,Zs aa,<- Int.natCast_ediv]
    have q2:z.tmod (b:Int) = -((n % b:Nat):Int):=by rw [ez,Int.neg_tmod,Zt aa,<- Int.natCast_emod]
    obtain ⟨q,hqq⟩:∃ q,q=n / b:=⟨_,rfl⟩;obtain ⟨r,hrr⟩:∃ r,r=n % b:=⟨_,rfl⟩;rw [<- hqq] at q1 d1 hq;rw [<- hrr] at q2 d1 d2 hr;by_cases h0:r=0
    ·rw [if_pos h0] at d1 d2;rw [h0] at q2;simp (disch:=try exact ac)[q1,q2];refine fU (l:=[I (-(q:Int)),I 0]) (h:=[]) (fun q=>by simp (disch:=try exact ac)[]) ?_;simp (disch:=try exact ac)[];refine cd (mO (z:=-(q:Int)) aa aa) ?_;simp (disch:=try exact ac)[];refine cd (mO (z:=0) aa aa) ?_
     refine uA ?_ ?_
     ·rw [d1]
     ·rw [d2]
    ·rw [if_neg h0] at d1 d2;have r0:¬ (-(r:Int))=0:=aa;have r1:(-(r:Int))<0:=aa;have r2:¬ (b:Int)<0:=aa;have eb:∀ x y:Bool,biB .neq (B x) (B y)=some (B (x != y)):=fun _ _=>rfl
     simp (disch:=try exact ac)[q1,q2,r0,r1,r2,eb];refine fU (l:=[I (-(q:Int)-1),I (-(r:Int)+b)]) (h:=[]) (fun q=>by simp (disch:=try exact ac)[r0,r1,r2]) ?_;simp (disch:=try exact ac)[];refine cd (mO (z:=-(q:Int)-1) aa aa) ?_;simp (disch:=try exact ac)[]
     refine cd (mO (z:=-(r:Int)+b) aa aa) ?_;refine uA ?_ ?_
     ·rw [d1];congr 1;omega
     ·rw [d2];congr 1;omega
   ·have ez:z=(n:Int):=aa;have q1:z.tdiv (b:Int)=((n / b:Nat):Int):=by rw [ez,Zs aa,<- Int.natCast_ediv]
    have q2:z.tmod (b:Int)=((n % b:Nat):Int):=by rw [ez,Zt aa,<- Int.natCast_emod]
    have d1:z / (b:Int)=((n / b:Nat):Int):=by rw [ez,<- Int.natCast_ediv]
    have d2:z % (b:Int)=((n % b:Nat):Int):=by rw [ez,<- Int.natCast_emod]
    obtain ⟨q,hqq⟩:∃ q,q=n / b:=⟨_,rfl⟩;obtain ⟨r,hrr⟩:∃ r,r=n % b:=⟨_,rfl⟩;rw [<- hqq] at q1 d1 hq;rw [<- hrr] at q2 d2 hr;have r1:¬ ((r:Int))<0:=aa;have r2:¬ (b:Int)<0:=aa;have eb:∀ x y:Bool,biB .neq (B x) (B y)=some (B (x != y)):=fun _ _=>rfl
    have fin:∀ h:Hp,cal (CX Y).p h (V.fn F.dG [] []) [I q] fun v45 h=>
      cal (CX Y).p h (V.fn F.dG [] []) [I r] fun v46 h=>out (V.tup [S (itoa (z / (b:Int))),S (itoa (z % (b:Int))),I 0]) (V.tup [v45,v46,V.d (D.int IntKind.i64 0)]) h:=by
     intro h;simp (disch:=try exact ac)[];refine cd (mO (z:=q) aa aa) ?_;simp (disch:=try exact ac)[];refine cd (mO (z:=r) aa aa) ?_;refine uA ?_ ?_
     ·rw [d1]
     ·rw [d2]
    by_cases h0:r=0
    ·rw [h0] at q2 fin;simp (disch:=try exact ac)[q1,q2];refine fU (l:=[I q,I 0]) (h:=[]) (fun q=>by simp (disch:=try exact ac)[]) ?_;exact fin []
    ·have r0:¬ (r:Int)=0:=aa;simp (disch:=try exact ac)[q1,q2,r0,r1,r2,eb];refine fU (l:=[I q,I r]) (h:=[]) (fun q=>by simp (disch:=try exact ac)[r0,r1,r2]) ?_;exact fin []
  ·rw [if_neg h2] at l2;simp (disch:=try exact ac)[];refine bJ ?_;simp (disch:=try exact ac)[];refine cd l2 ?_;simp (disch:=try exact ac)[];simpa using tl
 ·rw [if_neg h1];simp (disch:=try exact ac)[];refine bJ ?_;simp (disch:=try exact ac)[];simpa using tl
theorem Ny {a b:Nat} (ha0:0<a) (hb0:0<b) (ha:ndg a<400000) (hb:ndg b<400000):CP Y F.kR [S (ah a),S (ah b)] (S (ah (Nat.lcm a b))):=by
 refine C9 ?_;have h1:¬ ah a=[48]:=fun h=>by have:=jZ.1 h;omega
 have h2:¬ ah b=[48]:=fun h=>by have:=jZ.1 h;omega
 have hg:0<Nat.gcd a b:=Nat.gcd_pos_of_pos_left _ ha0;have hgl:Nat.gcd a b<=a:=Nat.gcd_le_left _ ha0;have hq:ndg (a / Nat.gcd a b)<=ndg a:=dt (Yc ..);simp (disch:=try exact ac)[kR,h1,h2];refine cd (LG aa aa) ?_;simp (disch:=try exact ac)[]
 refine cd (ya (a:=a) (b:=Nat.gcd a b) hg aa (by have:=dt hgl;omega)) ?_;simp (disch:=try exact ac)[];refine cd (Eh (a:=a / Nat.gcd a b) (b:=b) aa aa) ?_;refine dP ?_;congr 1;rw [Nat.lcm,Zy,<- Nat.mul_div_assoc _ (We a b),Zy]
theorem Mm (n:Nat):CP Y F.ib [S (ah n)] (S (ah n)):=by
 have:=Gh (n:Int)
 rwa [cN,Int.natAbs_natCast] at this
theorem RI {a b:Nat} (ha0:0<a) (hb0:0<b) (ha:ndg a<400000) (hb:ndg b<400000):CP Y F.mq [S (ah a),S (ah b)] (S (ah (Nat.lcm a b))):=by
 refine Gy ?_;simp (disch:=try exact ac)[mq];refine cd (Mm a) ?_;simp (disch:=try exact ac)[];refine cd (Mm b) ?_;simp (disch:=try exact ac)[];refine cd (Ny ha0 hb0 ha hb) ?_;exact dP rfl
theorem M1 {z:Int} (h:z.natAbs<9223372036854775808):CP Y F.fp [S (itoa z),I 10,I 64] (.tup [I z,.d (.pl .nilIface)]):=by
 have key:∀ n:Nat,n<9223372036854775808->(ah n)≠[]∧(ah n).all mi=true∧(ah n).length<=1000∧m7 0 (ah n)=n:=by
  intro n hn;have hd:=dC n;have hc:=pO n
  have hl:(ah n).length<=1000:=by
   have:=bb (n:=n) (d:=19) aa ae;rw [ah,aV];omega
  simp only [oc,Z8] at hc
  have hall:(ah n).all mi=true:=by
   rw [<- hc.1.2];congr 1;funext c;exact digit_eq c
  exact ⟨tX n,hall,hl,by rw [uK,hd]⟩
 have ho:Y.X.orc F.fp [.string ⟨⟨itoa z⟩⟩,.int .i64 10,.int .i64 64]=some (.tuple #[.int .i64 z,.nilIface]):=by
  have e:∀ a,Y.X.orc F.fp a=Lh a:=fun a=>rfl
  rw [e];obtain ⟨k1,k2,k3,k4⟩:=key _ h;unfold Lh;simp only;rw [if_pos ⟨trivial,trivial⟩];by_cases hz:z<0
  ·have e1:itoa z=45::ah z.natAbs:=by unfold itoa;rw [if_pos hz]
   rw [e1];simp only;rw [if_pos ⟨k1,k2,k3,by rw [k4];exact h⟩,k4,show (-((z.natAbs:Nat):Int))=z by omega]
  ·have e1:itoa z=ah z.natAbs:=by unfold itoa;rw [if_neg hz]
   rw [e1];have hh:=pK z.natAbs;have ez:((z.natAbs:Nat):Int)=z:=aa;generalize ah z.natAbs=L at *
   have fin:(if L≠[]∧L.all mi=true∧L.length<=1000∧m7 0 L<9223372036854775808 then some (Value.tuple #[.int .i64 (m7 0 L),.nilIface]) else none)=some (Value.tuple #[.int .i64 z,.nilIface]):=by
    rw [if_pos ⟨k1,k2,k3,by rw [k4];exact h⟩,k4,ez]
   split
   ·rename_i l hl;exact absurd rfl hh
   ·exact fin
 exact CP.orc ho (by intro x hx;simp only [Zr,Zc,or_false] at hx;rcases hx with rfl | rfl | rfl <;> rfl) rfl
theorem xD {z:Int} (h:z.natAbs<9223372036854775808):CP Y F.iB [S (itoa z)] (.tup [I z,B true]):=by
 refine Cu ?_;simp (disch:=try exact ac)[iB];refine cd (M1 h) ?_;simp (disch:=try exact ac)[Fq];exact ax rfl rfl
def RdN (s:Nat) (h:Hp) (v:V) (d:List Nat):Prop:=∀ h':Hp,h'.length=h.length->(∀ j,j≠s->h'[j]? = h[j]?)->RdP h' v d∧∃ h2,aI h' v=some (lst u6 d,h2)
theorem RdN.now {s:Nat} {h:Hp} {v:V} {d:List Nat} (r:RdN s h v d):RdP h v d:=(r h rfl fun _ _=>rfl).1
theorem RdN.step {s:Nat} {h h2:Hp} {v:V} {d:List Nat} (r:RdN s h v d) (hl:h2.length=h.length) (hs:∀ j,j≠s->h2[j]? = h[j]?):RdN s h2 v d:=
 fun h' h1 h3=>r h' (h1.trans hl) fun j hj=>(h3 j hj).trans (hs j hj)
theorem RdN.new {s t e N m:Nat} {h:Hp} (hst:s≠t) (hg:h[t]? = some (e,.data 1 ((aY N m).map u6) true false)) (hm:m<Z ^ N):RdN s h (.ref t e 0 (dig Z m).length N N) (dig Z m):=fun h' hl ho=>by
 have:=Aq (h:=h') (cap:=N) ((ho t (Ne.symm hst)).trans hg) (cg ..).symm (gO hm);rw [lj hm] at this;have sn:=tG (h:=h') ((ho t (Ne.symm hst)).trans hg) (cg ..).symm (len:=(dig Z m).length) (cap:=N) (gO hm) (Z7 _);rw [lj hm] at sn;exact ⟨this,_,sn⟩
theorem and_one {n:Int} (h0:0<=n) (h1:n<9223372036854775808):biI .and (I n) (I 1)=some (I (n % 2)):=by
 obtain ⟨m,rfl⟩:∃ m:Nat,n=m:=⟨n.toNat,aa⟩
 have hb:(BitVec.ofInt 64 (m:Int) &&& BitVec.ofInt 64 1).toNat=m % 2:=by
  rw [BitVec.toNat_and]
  have e1:(BitVec.ofInt 64 (m:Int)).toNat=m:=by
   rw [BitVec.toNat_ofInt];omega
  have e2:(BitVec.ofInt 64 (1:Int)).toNat=1:=ae;rw [e1,e2,Nat.and_one_is_mod]
 simp only [biI,gr,ne_eq,not_true_eq_false,if_false,kG,ii]
 show some (V.d (.int .i64 (IntKind.wrap .i64 ((BitVec.ofInt 64 (m:Int) &&& BitVec.ofInt 64 1).toNat:Int))))=_
 rw [hb,qB aa aa];rfl
theorem Po (k:KL):∀ (n A Bv:Nat) (o p:V) (h:Hp) (R:Nat),A * Bv ^ n=R->0 < A->0 < Bv->R < Z ^ 2000->n < 100000->h.length=3->NV h->RdN 2 h o (dig Z A)->RdN 1 h p (dig Z Bv) ->
  (∀ o' h' h2,h'.length=3->aI h' o'=some (lst u6 (dig Z R),h2)->NV h'->k (.exit 1) [o'] h')->∀ h0:Hp,h0.length=3->lp (jq (CX Y)) [] h0 [o,p,I n] h k:=by
 intro n
 induction n using Nat.strongRecOn with
 | ind n ih=>
  intro A Bv o p h R hR hA hB hlim hn hlen hnv ro rp hk h0 hl0;refine av ?_;by_cases hz:n=0
  ·subst hz;simp (disch:=try exact ac)[jq];rw [Nat.pow_zero,X7] at hR;subst hR;obtain ⟨h2,hs2⟩:=(ro h rfl fun _ _=>rfl).2;exact hk o h h2 hlen hs2 hnv
  have hpos:(n:Int) > 0:=aa
  have hBR:Bv<=R:=by
   rw [<- hR];exact Z1 (Nat.le_of_eq (Nat.pow_one Bv).symm) (Z1 (Z2 hB aa) (Nat.le_mul_of_pos_left _ hA))
  have hAR:A<=R:=by rw [<- hR];exact Zd _ (Ya hB)
  have dA:(dig Z A).length<=2000:=gO aa;have dB:(dig Z Bv).length<=2000:=gO aa;have and1:=and_one (n:=(n:Int)) aa aa;have e2:((n:Int) / 2 ^ (1:Int).toNat)=((n / 2:Nat):Int):=af
  have sh:biI .shr (I n) (.d (.int .u64 1))=some (I (n / 2:Nat)):=by
   rw [R4 aa aa,e2]
  have hn2:n / 2 < n:=aa
  -- what a product gives
  have times:∀ (h:Hp) (v w:V) (a b s:Nat),h.length=3->NV h->s < 3->RdP h v (dig Z a)->RdP h w (dig Z b)->(dig Z a).length<=2000->(dig Z b).length<=2000->∀ q:V->Hp->Prop,
    (∀ o' h',h'.length=3->NV h'->(∀ j,j≠s->h'[j]? = h[j]?)->(∀ t,t≠s->RdN t h' o' (dig Z (a * b)))->q o' h')->cai (CX Y).i h (V.fn F.bc [] []) [v,w] s q:=by
   intro h v w a b s hl hv hs r1 r2 d1 d2 q hq;obtain ⟨N,hN⟩:∃ N,N=(dig Z a).length+(dig Z b).length:=⟨_,rfl⟩;have tk:=xx (h:=h) (hv.all _) r1 (bX ay a) r2 (bX ay b) aa aa hN;rw [gz ay,gz ay] at tk;have hs3:s < h.length:=aa;have hm:a * b < Z ^ N:=by rw [hN,Yx];exact Yh (rT a) (rT b)
   refine ir (e:=h[s].1) (b:=h[s].2) tk (List.getElem?_eq_getElem hs3) ?_;rw [List.length_map,cg];have gs:(h.set s (h[s].1+1,.data 1 ((aY N (a * b)).map u6) true false))[s]? = some (h[s].1+1,.data 1 ((aY N (a * b)).map u6) true false):=by simp [hs3]
   have os:∀ j,j≠s->(h.set s (h[s].1+1,.data 1 ((aY N (a * b)).map u6) true false))[j]? = h[j]?:=fun j hj=>by rw [List.getElem?_set_ne (Ne.symm hj)]
   exact hq _ _ (by simp [hl]) (hv.upd gs os) os (fun t ht=>RdN.new ht gs hm)
  have fin:∀ (A' B':Nat) (o' p':V) (h':Hp),A' * B' ^ (n / 2)=R->0 < A'->0 < B'->h'.length=3->NV h'->RdN 2 h' o' (dig Z A')->RdN 1 h' p' (dig Z B')->rl (lp (jq (CX Y)) [] h0 [o',p',I ((n:Int) / 2)] h') k .mk:=by
   intro A' B' o' p' h' e1 e2 e3 e4 e5 e6 e7;rw [show ((n:Int) / 2)=((n / 2:Nat):Int) by omega];exact ih (n / 2) hn2 A' B' o' p' h' R e1 e2 e3 hlim aa e4 e5 e6 e7 hk h0 hl0
  have hdm:=Xy n 2;simp (disch:=try exact ac)[jq,hpos];refine bJ ?_;simp (disch:=try exact ac)[and1];by_cases hod:(n:Int) % 2=1
  ·have hod':n % 2=1:=aa
   have eR:A * Bv * (Bv * Bv) ^ (n / 2)=R:=by
    rw [<- hR]
    conv=>rhs;rw [<- hdm,hod',Yx,Nat.pow_mul,Nat.pow_one]
    rw [Nat.pow_two,Nat.mul_assoc,Zy Bv]
   refine bJ ?_;simp (disch:=try exact ac)[hod];refine kh (times h o p A Bv 1 hlen hnv aa ro.now rp.now dA dB _ fun o' h' l1 v1 s1 r1=>?_);have rp1:=rp.step (l1.trans hlen.symm) s1;have ro1:=r1 2 aa;simp (disch:=try exact ac)[];refine bJ ?_;by_cases h1:(n:Int) > 1
   ·simp (disch:=try exact ac)[h1];refine kh (times h' p p Bv Bv 2 l1 v1 aa rp1.now rp1.now dB dB _ fun p' h'' l2 v2 s2 r2=>?_);have ro2:=ro1.step (l2.trans l1.symm) s2;simp (disch:=try exact ac)[sh];exact fin _ _ o' p' h'' eR (Yr hA hB) (Yr hB hB) l2 v2 ro2 (r2 1 aa)
   ·have hn1:n=1:=aa;simp (disch:=try exact ac)[h1,sh];refine fin (A * Bv) Bv o' p h' ?_ (Yr hA hB) hB l1 v1 ro1 rp1;rw [<- eR];subst hn1;simp
  ·have hod':n % 2=0:=aa
   have eR:A * (Bv * Bv) ^ (n / 2)=R:=by
    rw [<- hR]
    conv=>rhs;rw [<- hdm,hod',Nat.add_zero,Nat.pow_mul]
    rw [Nat.pow_two]
   refine bJ ?_;simp (disch:=try exact ac)[hod];refine bJ ?_;have h1:(n:Int) > 1:=aa;simp (disch:=try exact ac)[h1];refine kh (times h p p Bv Bv 2 hlen hnv aa rp.now rp.now dB dB _ fun p' h'' l2 v2 s2 r2=>?_);have ro2:=ro.step (l2.trans hlen.symm) s2;simp (disch:=try exact ac)[sh]
   exact fin _ _ o p' h'' eR hA (Yr hB hB) l2 v2 ro2 (r2 1 aa)
theorem Lx {n:Nat} (h:n<18446744073709551616):CP Y F.iS [.d (.int .u64 n)] (I (bp n)):=by
 refine zn ?_;simp (disch:=try exact ac)[iS];refine cd (BA h) ?_;simp (disch:=try exact ac)[] <;> exact bU rfl
theorem uE:ah 2=[50]:=aJ
theorem eY:ah 1=[49]:=aJ
theorem Ro:CP Y F.jJ [S [50]] (I 2):=by
 refine B6 ?_;have h:=xC (n:=2) aa;rw [uE] at h;have h2:=BA (n:=2) aa;rw [show bp 2=2 by decide +kernel] at h2;simp (disch:=try exact ac)[jJ];refine cd h ?_;simp (disch:=try exact ac)[];refine cd h2 ?_;exact bU rfl
theorem N0 {n K:Nat} (h:n / 3+1<=K):2 ^ n<10 ^ K:=by
 have h1:2 ^ n=8 ^ (n / 3)*2 ^ (n % 3):=by
  rw [show (8:Nat)=2 ^ 3 from rfl,<- Nat.pow_mul,<- Yx,Xy]
 have h2:8 ^ (n / 3)<=10 ^ (n / 3):=Nat.pow_le_pow_left ae _
 have h3:2 ^ (n % 3)<=4:=by
  have:n % 3<3:=Yw _ ae;exact Z1 (Z2 ae (show n % 3<=2 by omega)) ae
 have h4:10 ^ (n / 3+1)<=10 ^ K:=Z2 ae h;have h5:=Zq h2 h3;rw [Nat.pow_succ] at h4;have h6:=Ya (n:=n / 3) (show 0<10 by decide);omega
theorem SA {n K:Nat} (h:n / 3+1<=K) (hK:0<K):ndg (2 ^ n)<=K:=bb (N0 h) hK
theorem XB {n K:Nat} (h:n / 3+1<=K):2 ^ n<Z ^ K:=Z0 (N0 h) (Nat.pow_le_pow_left ae _)
theorem zR {n:Nat} (hn:n<=4000):2 ^ n<Z ^ 2000∧ndg (2 ^ n)<=2000:=
 ⟨XB (K:=2000) aa,SA (K:=2000) aa aa⟩
theorem Nx {n:Nat} (hn:n<=4000):CP Y F.hH [S [50],I n] (.tup [S (ah (2 ^ n)),I 0]):=by
 refine zD ?_;by_cases h0:n=0
 ·subst h0;rw [Nat.pow_zero,eY];simp (disch:=try exact ac)[hH];exact ax rfl rfl
 have g1:¬ (n:Int)=0:=aa;have g2:¬ (n:Int)<0:=aa;have g3:¬ (n:Int) > 66439:=aa;have n1:¬ ([50]:List UInt8)=[49]:=ae;have n2:¬ ([50]:List UInt8)=[48]:=ae;have ct:=qy (h:=[(0,.none),(0,.none),(0,.none)]) rfl (n:=2) (cap:=1) aJ aJ;rw [uE] at ct;obtain ⟨p1,p2⟩:=zR hn
 have hli:∀ h:Hp,dE 1 [D.int .u64 0] [(0,V.d (D.int .u64 1))] h=some ([u6 1],h):=fun h=>by simp [dE,gG,jw,toD,u6]
 simp (disch:=try exact ac)[hH,g1,g2,n1,n2];refine cd Ro ?_;simp (disch:=try exact ac)[g3,hli];refine kh (ir (e:=0) (b:=.none) ct rfl ?_);rw [List.length_map,cg];simp (disch:=try exact ac)[]
 have nv:NV [(1,.data 1 ((aY 1 2).map u6) true false),(0,.none),(0,.none)]:=by
  intro j x hj b';rcases Wp.2 ⟨j,hj⟩ with hm;simp only [Zr,Zc,or_false] at hm;rcases hm with rfl | rfl | rfl <;> rfl
 refine lo (Po _ n 1 2 (lst u6 [1]) _ [(1,.data 1 ((aY 1 2).map u6) true false),(0,.none),(0,.none)] (2 ^ n) (by rw [Xz]) ae ae p1 aa rfl nv ?_ ?_ (fun o' h' h2 hl hr hv=>?_) _ rfl)
 ·intro h' _ _;rw [show dig Z 1=[1] by decide +kernel];exact ⟨Mq h' [1],h',pu ..⟩
 ·exact RdN.new (s:=1) (t:=0) ae rfl ae
 ·have hl1:¬ (ndg (2 ^ n):Int) > 20000:=aa;have lt:=jY (2 ^ n);have tx:=ul (n:=2 ^ n) (Zb (gO p1) ae);generalize 2 ^ n=m at *;simp (disch:=try exact ac)[];refine cdz (by simp only [ai,hr];rfl) tx ?_;rw [show gH (S (ah m))=true from rfl,if_pos rfl];simp (disch:=try exact ac)[lt,hl1];exact ax rfl rfl
theorem xL {n:Nat} (hn:n<=4000):CP Y F.iC [S [50],I n] (.tup [S (ah (2 ^ n)),I 0]):=by
 refine Cx ?_;have sp:=o6 2;rw [uE] at sp;have g2:¬ (n:Int)<0:=aa;have g3:¬ (n:Int) > 4000:=aa;obtain ⟨p1,p2⟩:=zR hn;have q:((4000:Int).tdiv 1)=4000:=ae;simp (disch:=try exact ac)[iC,g2];refine cd sp ?_;simp (disch:=try exact ac)[g3,q];refine cd (Nx hn) ?_;simp (disch:=try exact ac)[]
 refine cd (Qc _) ?_;exact ax rfl rfl
def dgF (unit two:Nat):Nat->Nat->Nat->Nat->Option Nat
 | 0,_,_,out=>some out
 | r+1,low,high,out=>
  cond (Nat.ble two (low*low / unit)) (dgF unit two r (low*low / unit / 2) ((high*high / unit+1) / 2+1) (out+out+1))
   (cond (Nat.ble two (high*high / unit+1)) none (dgF unit two r (low*low / unit) (high*high / unit+1) (out+out)))
def yg (p n more:Nat):Option Nat:=dgF (2 ^ more) (2 ^ more+2 ^ more) n (p*2 ^ (more-(bp p-1))) (p*2 ^ (more-(bp p-1))) (bp p-1)
def dgV:Option Nat->V
 | some v=>.tup [S (ah v),B true]
 | none=>.tup [S [],B false]
theorem qE {a b:Nat} (ha:ndg a<999999) (hb:ndg b<999999):CP Y F.cr [S (ah a),S (ah b)] (S (ah (a+b))):=by
 have:=tB (z:=(a:Int)) (w:=(b:Int)) (by simpa using ha) (by simpa using hb)
 rwa [cN,cN,<- Int.natCast_add,cN] at this
theorem tA {a b:Nat} (ha:ndg a<400000) (hb:ndg b<400000):CP Y F.aH [S (ah a),S (ah b)] (S (ah (a*b))):=by
 have:=qC (z:=(a:Int)) (w:=(b:Int)) (by simpa using ha) (by simpa using hb)
 rwa [cN,cN,<- Int.natCast_mul,cN] at this
theorem qD {a b:Nat} (h0:0<b) (ha:ndg a<900000) (hb:ndg b<900000):CP Y F.aQ [S (ah a),S (ah b)] (.tup [S (ah (a / b)),S (ah (a % b)),I 0]):=by
 have:=rz (z:=(a:Int)) h0 (by simpa using ha) hb
 rwa [cN,<- Int.natCast_ediv,<- Int.natCast_emod,cN,cN] at this
theorem pZ {a b:Nat}:ndg (a*b)<=ndg a+ndg b:=by
 have h3:a*b<10 ^ (ndg a+ndg b):=by rw [Yx];exact Yh (cx a) (cx b)
 exact bb h3 (by have:=jC a;omega)
theorem Q4 {a b:Nat}:decide (0<=Big.cmp a b)=Nat.ble b a:=by
 rw [Yu,Nat.ble_eq,decide_eq_true_eq];rcases Nat.lt_trichotomy a b with h | h | h
 ·rw [Cd h];omega
 ·subst h;rw [cmp_eq];omega
 ·rw [Ce h];omega
theorem HU {n k:Nat} (h:ndg n<=k):ndg (n+n+1)<=k+1:=by
 have h1:n<10 ^ k:=Z0 (cx n) (Z2 ae h);exact bb (by rw [Nat.pow_succ];omega) aa
theorem yS {unit two N W:Nat} (hu:2<=unit) (htwo:two=unit+unit) (hW:ndg two<=W) (hW2:W<100000) (hN:N<100000) (k:KL):∀ (r i low high out:Nat),i+r=N->low<=high->high<two->ndg out<=W+i ->
  (∀ v,dgF unit two r low high out=some v->ndg v<=W+N->k (.exit 0) [S (ah v)] [])->(dgF unit two r low high out=none->k .ret [S [],B false] []) ->
  lp (mK (CX Y) (S (ah unit)) (S (ah two)) (I N)) [] [] [S (ah low),S (ah high),S (ah out),I i] [] k
 | 0,i,low,high,out,hi,hlh,hht,ho,h0,h1=>by
  have hiN:¬ (i:Int)<(N:Int):=aa;refine av ?_;simp (disch:=try exact ac)[mK,hiN];exact h0 out rfl aa
 | r+1,i,low,high,out,hi,hlh,hht,ho,h0,h1=>by
  have hiN:(i:Int)<(N:Int):=aa;have ih:=yS hu htwo hW hW2 hN k r (i+1);have u1:ndg unit<=W:=Z1 (dt aa) hW;have u2:ndg low<=W:=Z1 (dt aa) hW;have u3:ndg high<=W:=Z1 (dt aa) hW;have m1:=tA (a:=low) (b:=low) aa aa;have m2:=tA (a:=high) (b:=high) aa aa
  have w1:ndg (low*low)<=W+W:=Z1 pZ aa;have w2:ndg (high*high)<=W+W:=Z1 pZ aa;have d1:=qD (a:=low*low) (b:=unit) aa aa aa;have d2:=qD (a:=high*high) (b:=unit) aa aa aa;have lowle:low*low / unit<=high*high / unit:=Nat.div_le_div_right (Zq hlh hlh)
  have hi4:high*high / unit+4<=4*unit:=by
   have e1:high*high<=(2*unit-1)*(2*unit-1):=Zq aa aa
   have e2:(2*unit-1)*(2*unit-1)+4*unit=4*unit*unit+1:=by
    obtain ⟨x,hx⟩:∃ x,unit=x+1:=⟨unit-1,aa⟩;subst hx;rw [show 2*(x+1)-1=2*x+1 by omega];simp only [Nat.add_mul,Zp,X7,Xz,Nat.mul_assoc,Yy x 2];omega
   have e3:high*high<(4*unit-3)*unit:=by
    rw [Nat.sub_mul];have:4*unit*unit≥3*unit:=Z4 _ aa;omega
   have:=(W7 aa).2 e3;omega
  have eqF:dgF unit two (r+1) low high out=cond (Nat.ble two (low*low / unit)) (dgF unit two r (low*low / unit / 2) ((high*high / unit+1) / 2+1) (out+out+1))
   (cond (Nat.ble two (high*high / unit+1)) none (dgF unit two r (low*low / unit) (high*high / unit+1) (out+out))):=rfl
  rw [eqF] at h0 h1;generalize low*low / unit=L1 at *;generalize high*high / unit=H0 at *;have t2:ndg (two+two)<=W+1:=qc hW hW;have v1:ndg L1<=W+1:=Z1 (dt aa) t2;have v2:ndg H0<=W+1:=Z1 (dt aa) t2;have v3:ndg (H0+1)<=W+1:=Z1 (dt aa) t2;have a1:=qE (a:=H0) (b:=1) aa (by rw [wD];omega)
  rw [eY] at a1;have a2:=qE (a:=out) (b:=out) aa aa;have vo:ndg (out+out)<=W+i+1:=qc ho ho;have a3:=qE (a:=out+out) (b:=1) aa (by rw [wD];omega);rw [eY] at a3;have c1:=GD (a:=L1) (b:=two) aa aa;have c2:=GD (a:=H0+1) (b:=two) aa aa;have g1:=Q4 (a:=L1) (b:=two)
  have g2:=Q4 (a:=H0+1) (b:=two);have d3:=qD (a:=L1) (b:=2) aa aa (by rw [show ndg 2=1 by decide +kernel];omega);have d4:=qD (a:=H0+1) (b:=2) aa aa (by rw [show ndg 2=1 by decide +kernel];omega);rw [uE] at d3 d4;have v4:ndg ((H0+1) / 2)<=W+1:=Z1 (dt aa) t2
  have a4:=qE (a:=(H0+1) / 2) (b:=1) aa (by rw [wD];omega);rw [eY] at a4;generalize Big.cmp L1 two=C1 at *;generalize Big.cmp (H0+1) two=C2 at *;refine av ?_;simp (disch:=try exact ac)[mK,hiN];refine bJ ?_;simp (disch:=try exact ac)[];refine cd m1 ?_;simp (disch:=try exact ac)[];refine cd d1 ?_
  simp (disch:=try exact ac)[];refine cd m2 ?_;simp (disch:=try exact ac)[];refine cd d2 ?_;simp (disch:=try exact ac)[];refine cd a1 ?_;simp (disch:=try exact ac)[];refine cd a2 ?_;simp (disch:=try exact ac)[];refine bJ ?_;simp (disch:=try exact ac)[];refine cd c1 ?_
  simp (disch:=try exact ac)[];refine bJ ?_;cases q1:Nat.ble two L1 with
  | true=>
   rw [q1] at g1 h0 h1;simp only [cond_true] at h0 h1;have g1':0<=C1:=by simpa using g1
   have b1:two<=L1:=Nat.le_of_ble_eq_true q1;simp (disch:=try exact ac)[g1'];refine cd a3 ?_;simp (disch:=try exact ac)[];refine cd d3 ?_;simp (disch:=try exact ac)[];refine cd d4 ?_;simp (disch:=try exact ac)[];refine cd a4 ?_;simp (disch:=try exact ac)[]
   have:=ih (L1 / 2) ((H0+1) / 2+1) (out+out+1) aa aa aa (HU ho) h0 h1;simpa using this
  | false=>
   rw [q1] at g1 h0 h1;simp only [cond_false] at h0 h1;have g1':¬ 0<=C1:=by simpa using g1
   simp (disch:=try exact ac)[g1'];refine cd c2 ?_;simp (disch:=try exact ac)[];cases q2:Nat.ble two (H0+1) with
   | true=>
    rw [q2] at g2 h1;have g2':0<=C2:=by simpa using g2
    simp (disch:=try exact ac)[g2'];exact h1 rfl
   | false=>
    rw [q2] at g2 h0 h1;simp only [cond_false] at h0 h1;have g2':¬ 0<=C2:=by simpa using g2
    have b2:¬ two<=H0+1:=fun h=>by rw [Nat.ble_eq_true_of_le h] at q2;cases q2
    simp (disch:=try exact ac)[g2'];have:=ih L1 (H0+1) (out+out) aa aa aa aa h0 h1;simpa using this
theorem M4 (v:Nat) (h:Hp):out (dgV (some v)) (.tup [S (ah v),B true]) h:=ax rfl rfl
theorem M5 (h:Hp):out (dgV none) (.tup [S [],B false]) h:=ax rfl rfl
theorem Kl {p n more:Nat} (hp:2<=p) (hp2:p<1000000) (hm1:30<=more) (hm:more<=4000) (hn:n<=4000):CP Y F.size_digits [I p,I n,I more] (dgV (yg p n more)):=by
 refine CJ ?_;obtain ⟨hk0,hpk,hk1⟩:=mQ (n:=p) aa
 have hk2:bp p<=20:=by
  rcases Zk 20 (bp p) with h | h
  ·have:2 ^ 20<=2 ^ (bp p-1):=Z2 ae aa;omega
  ·exact h
 obtain ⟨kk,hkk⟩:∃ kk,kk=bp p-1:=⟨_,rfl⟩;obtain ⟨mk,hmk⟩:∃ mk,mk=more-kk:=⟨_,rfl⟩;have e1:((bp p:Nat):Int)-1=(kk:Int):=aa;have e2:(more:Int)-(kk:Int)=(mk:Int):=aa;have hcv:IntKind.wrap .u64 (p:Int)=(p:Int):=Jd aa aa;have lb:=Lx (n:=p) aa;have pw:=xL hm;have pw2:=xL (n:=mk) aa;have b1:=(zR hm).2
 have b2:=(zR (n:=mk) aa).2;have ad:=qE (a:=2 ^ more) (b:=2 ^ more) aa aa;have op:=JP (n:=p) aa;have ok:=JP (n:=kk) aa;have np:ndg p<=6:=bb aa ae;have nk:ndg kk<=2:=bb aa ae;have ml:=tA (a:=p) (b:=2 ^ mk) aa aa;have b3:ndg (2 ^ more+2 ^ more)<=2000+1:=qc b1 b1
 have hlt:p*2 ^ mk<2 ^ more+2 ^ more:=by
  have h1:p*2 ^ mk<2 ^ bp p*2 ^ mk:=(Nat.mul_lt_mul_right (Ya ae)).2 hpk;rw [<- Yx,show bp p+mk=more+1 by omega,Nat.pow_succ] at h1;omega
 have hu:2<=2 ^ more:=by
  have:2 ^ 1<=2 ^ more:=Z2 ae aa;omega
 have eF:yg p n more=dgF (2 ^ more) (2 ^ more+2 ^ more) n (p*2 ^ mk) (p*2 ^ mk) kk:=by
  unfold yg;rw [<- hkk,<- hmk]
 rw [eF];generalize 2 ^ more=unit at *;generalize 2 ^ mk=pm at *;generalize p*pm=low at *;simp (disch:=try exact ac)[size_digits,hcv];refine cd lb ?_;simp (disch:=try exact ac)[e1];refine cd pw ?_;simp (disch:=try exact ac)[];refine cd ad ?_;simp (disch:=try exact ac)[e2];refine cd pw2 ?_
 simp (disch:=try exact ac)[];refine cd op ?_;simp (disch:=try exact ac)[];refine cd ml ?_;simp (disch:=try exact ac)[];refine cd ok ?_;simp (disch:=try exact ac)[];refine lo (yS hu rfl (W:=2001) b3 aa (N:=n) aa _ n 0 low low kk aa (Z7 _) hlt aa (fun v hv _=>?_) (fun hv=>?_))
 ·rw [hv];simp (disch:=try exact ac)[];exact M4 v _
 ·rw [hv];simp (disch:=try exact ac)[];exact M5 _
def FC (p n:Nat):Option Nat:=if p=2 then some (2 ^ n) else yg p n (n+64)
theorem U6 {p n v:Nat} (hp:2<=p) (hp2:p<1000000) (hn:n<=3900) (hv:FC p n=some v):CP Y F.pB [I p,I n] (S (ah v)):=by
 refine Jp ?_;unfold FC at hv;by_cases h2:p=2
 ·rw [if_pos h2] at hv;simp only [Z9] at hv;have e:((p:Int)=2):=aa;have pw:=xL (n:=n) aa;rw [hv] at pw;simp (disch:=try exact ac)[pB,e];refine cd pw ?_;simp (disch:=try exact ac)[];exact dP rfl
 ·rw [if_neg h2] at hv;have e:¬ ((p:Int)=2):=aa;have dg:=Kl (p:=p) (n:=n) (more:=n+64) hp hp2 aa aa aa;rw [hv] at dg;obtain ⟨m,hm⟩:∃ m,m=n+64:=⟨_,rfl⟩;rw [<- hm] at dg;have e3:(n:Int)+64=(m:Int):=aa;simp (disch:=try exact ac)[pB,e,e3];refine lo (av ?_);simp (disch:=try exact ac)[yC];refine cd dg ?_
  simp (disch:=try exact ac)[dgV];exact dP rfl
end Go.Vm
