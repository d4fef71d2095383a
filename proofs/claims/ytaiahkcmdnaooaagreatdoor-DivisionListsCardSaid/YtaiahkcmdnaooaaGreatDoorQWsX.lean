/- Signed integers as texts: small ones read, signs, negatives. -/
import Derived.Test.YtaiahkcmdnaooaaGreatDoorQCkBits
import Derived.Test.YtaiahkcmdnaooaaGreatDoorQCkShift
import Derived.Test.YtaiahkcmdnaooaaGreatDoorQT
import Derived.Test.YtaiahkcmdnaooaaGreatDoorQTSmB
set_option linter.unusedVariables false
set_option linter.unusedSimpArgs false
namespace Go.Vm
open Go Go.Am Go.Big
theorem SV {n w:Nat} (h1:1<=w) (h2:w<=17) (hn:n<10 ^ w):CP Y F.gz [S (45::dG n w)] (.tup [I (-(n:Int)),.d (.pl .nilIface)]):=by
 refine sR ?_;have hl:=Do w n;have hlt:=BA w n;have hh:=C4 w n hn;have he:=Sk n w;have hD:=Hk w n;have hn17:n<10 ^ 17:=Z0 hn (Z2 ae h2);simp only [Nat.reducePow] at hn17;generalize dG n w=L at *;generalize zG n w=l at *;have hlen:L.length=w:=by rw [hD];simpa using hl
 have hi:ixS (S (45::L)) (.d (.int .i64 0))=some (.d (.int .u8 45)):=by simp [ixS]
 have hlw:k8 (S (45::L))=some (I (w+1:Nat)):=by rw [G1];simp [hlen]
 have hsl:slS (S (45::L)) (some (.d (.int .i64 1))) none=some (S L):=by
  have:(1:Int)<=(L.length:Int)+1:=aa;simp [slS,boV,this]
 have hl2:k8 (S L)=some (I w):=by rw [G1,hlen]
 simp (disch:=try exact ac)[gz,hlw,hi]
 have hcv:∀ (k:V->Hp->Prop),cvB (S L) [] k=k (lst f8 l) []:=by
  intro k
  have:V.d (.sl L.length (L.map fun b=>.int .u8 b.toNat))=lst f8 l:=by
   unfold lst;rw [hlen,hl,<- he];rfl
  simp only [cvB,this]
 refine fY (l:=[S L]) (h:=[]) (fun q=>?_) ?_
 ·simp (disch:=try exact ac)[hsl,hl2]
 show cvB (S L) [] _
 rw [hcv];simp (disch:=try exact ac)[];refine lo (HA _ _ rfl l [] 0 ak hlt ag ?_);simp (disch:=try exact ac)[hi,hh];refine fY (l:=[I (-(n:Int))]) (h:=[]) (fun q=>?_) ?_
 ·simp (disch:=try exact ac)[hh]
 exact ⟨[],by simp [aF,ai,norm]⟩
theorem SU {n w:Nat} (h1:1<=w) (h2:w<=17) (hn:n<10 ^ w):CP Y F.strconv_Atoi [S (45::dG n w)] (.tup [I (-(n:Int)),.d (.pl .nilIface)]):=by
 refine uE ?_;simp (disch:=try exact ac)[strconv_Atoi];refine cd (SV h1 h2 hn) ?_;simp (disch:=try exact ac)[GP];exact ⟨[],by simp [aF,ai,norm]⟩
def sdg (z:Int):Nat:=ndg z.natAbs+if z<0 then 1 else 0
theorem JB (z:Int):k8 (S (itoa z))=some (I (sdg z)):=by
 rw [G1];unfold itoa sdg;split
 ·simp [ah,bb]
 ·simp [ah,bb]
theorem Kz {z:Int} (h:sdg z<=18):CP Y F.strconv_Atoi [S (itoa z)] (.tup [I z,.d (.pl .nilIface)]):=by
 unfold sdg at h;by_cases hz:z<0
 ·rw [if_pos hz] at h;have:=SU (n:=z.natAbs) (w:=ndg z.natAbs) (jB _) aa (cT _);rw [show (-(z.natAbs:Int))=z by omega] at this;unfold itoa;rw [if_pos hz];exact this
 ·rw [if_neg hz] at h;have:=Hz (n:=z.natAbs) (w:=ndg z.natAbs) (jB _) aa (cT _);rw [show ((z.natAbs:Nat):Int)=z by omega] at this;unfold itoa;rw [if_neg hz];exact this
theorem qH (z:Int) (w:Nat) (hw:w<=18):CP Y F.bw [S (itoa z),I w] (if sdg z<=w then .tup [I z,B true] else .tup [I 0,B false]):=by
 refine qm ?_;have la:=JB z;by_cases h:(w:Int)<sdg z
 ·rw [if_neg aa];simp (disch:=try exact ac)[bw,la,h];exact ax rfl rfl
 ·rw [if_pos aa];have ap:=Kz (z:=z) aa;have en:biF .eql (.d (.pl .nilIface)) (.d (.pl .nilIface))=some (.d (.bool true)):=rfl;simp (disch:=try exact ac)[bw,la,h];refine cd (args:=[S (itoa z)]) ap ?_;simp (disch:=try exact ac)[en];exact ax rfl rfl
theorem CM (z:Int):CP Y F.fI [S (itoa z)] (if sdg z<=9 then .tup [I z,B true] else .tup [I 0,B false]):=by
 refine x8 ?_;have la:=JB z;by_cases h:(9:Int)<sdg z
 ·rw [if_neg aa];simp (disch:=try exact ac)[fI,la,h];exact ax rfl rfl
 ·rw [if_pos aa];have ap:=Kz (z:=z) aa;have en:biF .eql (.d (.pl .nilIface)) (.d (.pl .nilIface))=some (.d (.bool true)):=rfl;simp (disch:=try exact ac)[fI,la,h];refine cd (args:=[S (itoa z)]) ap ?_;simp (disch:=try exact ac)[en];exact ax rfl rfl
theorem xS (z:Int):rdN (itoa z)=decide (z<0):=by
 unfold itoa;split
 ·rename_i h;simp [rdN,h]
 ·rename_i h;have:=pd z.natAbs;unfold rdN;rw [decide_eq_false this,decide_eq_false h]
theorem qc (z:Int):CP Y F.aO [S (itoa z)] (.tup [B (decide (z<0)),S (ah z.natAbs)]):=by
 have h:=uF (itoa z);rw [xS,sO] at h;exact h
theorem oF {a b:Nat} (h:ah a=ah b):a=b:=by
 have:=congrArg (d9 0) h
 rwa [dt,dt] at this
theorem xT {a b:Int} (h:itoa a=itoa b):a=b:=by
 have h1:=congrArg rdT h;have h2:=congrArg rdN h;rw [sO,sO] at h1;rw [xS,xS] at h2;have h3:=oF h1;have h4:(a<0)↔(b<0):=by simpa using h2
 omega
theorem kG {n:Nat}:ah n=[48]↔n=0:=by
 constructor
 ·intro h;exact oF (a:=n) (b:=0) (h.trans eO.symm)
 ·rintro rfl;exact eO
def sg (b:Bool) (n:Nat):Int:=if b then -(n:Int) else n
theorem lN (b:Bool) {n:Nat} (hn9:ndg n<1000000):CP Y F.b9 [B b,S (ah n)] (S (itoa (sg b n))):=by
 refine xa ?_;cases b with
 | false=>
  have:itoa (sg false n)=ah n:=by simp [sg,itoa]
  rw [this];simp (disch:=try exact ac)[b9] <;> exact d8 rfl
 | true=>
  by_cases hn:n=0
  ·subst hn;have e0:itoa (sg true 0)=[48]:=eO;simp (disch:=try exact ac)[b9,eO] <;> exact d8 e0.symm
  ·have h0:¬ ah n=[48]:=fun h=>hn (kG.1 h)
   have:itoa (sg true n)=45::ah n:=by
    unfold itoa sg;rw [if_pos rfl,if_pos aa];simp
   rw [this];have hl:(ah n).length=ndg n:=bb _ _;have ha:biS .add (.d (.str [45])) (S (ah n))=some (S (45::ah n)):=UU [45] (ah n) (by rw [hl];simp;omega);simp (disch:=try exact ac)[b9,h0,ha] <;> exact d8 rfl
theorem vF {z:Int} (hz:ndg z.natAbs<1000000):CP Y F.iV [S (itoa z)] (S (itoa (-z))):=by
 refine HS ?_;simp (disch:=try exact ac)[iV];refine cd (qc z) ?_;simp (disch:=try exact ac)[];have:=lN (!decide (z<0)) hz
 have e:sg (!decide (z<0)) z.natAbs = -z:=by
  unfold sg;by_cases h:z<0
  ·simp [h];omega
  ·simp [h];omega
 rw [e] at this;refine cd this ?_;exact d8 rfl
def bS (n:Nat):Nat:=(dig Z n).length
theorem BB {n:Nat}:bS n=ndg n / 9+1∨bS n+1=ndg n / 9+1:=by
 unfold bS;have h1:(dig Z n).length<=ndg n / 9+1:=(nS ay).2 (Z0 (cT n) (by rw [yF];exact Z2 ae aa))
 have h2:ndg n<=9*(dig Z n).length∨n=0:=by
  rcases Ze n with h | h
  ·exact .inr h
  ·left;have h3:n<Z ^ (dig Z n).length:=(nS ay).1 (Z7 _);rw [yF] at h3;refine bf h3 ?_;rcases Ze (dig Z n).length with h4 | h4
   ·rw [h4] at h3;simp at h3;omega
   ·omega
 rcases h2 with h2 | rfl
 ·omega
 ·have:ndg 0=1:=aE;rw [this];right;rfl
theorem GX (n:Nat):n<Z ^ bS n:=(nS ay).1 (Z7 _)
theorem ya (n:Nat):bh (bS n) n=dig Z n:=by
 have:=mj (GX n)
 rwa [Zx (by rw [cI];exact Z7 _)] at this
theorem x9 {n c:Nat} (h:bS n+1=c):bh c n=dig Z n++[0]:=by
 rw [<- h,zo (GX n),ya]
theorem NL {s t n c:Nat} {h:Hp} {q:V->Hp->Prop} {u:PU q} (hst:s≠t) (hg:h[s]? = some (1,.data 1 ((bh c n).map u6) true false)) (ht:h[t]? = some (0,.none)) (hL:bS n=c∨bS n+1=c) (hc:c<1000000)
  (hq:∀ s' e' ex h',h'.length=h.length->h'[s']? = some (e',.data 1 ((dig Z n++[0]).map u6) ex false)->(s'=s∨s'=t)->(∀ j,j≠s'->h'[j]? = h[j]?)->q (.ref s' e' 0 (bS n+1) (bS n+1) (bS n+1)) h') :
  rh (apV false t 1 8 (.ref s 1 0 (bS n) c c) (.d (.sl 1 [u6 0])) h) q u:=by
 have hl:=bL hg;have hl2:=bL ht;rcases hL with hL | hL
 ·subst hL;rw [ya] at hg;refine NK hg ht rfl aa ?_;exact hq t 1 false _ ag (by simp [hl2]) (.inr rfl) (fun j hj=>by rw [List.getElem?_set_ne (Ne.symm hj)])
 ·rw [x9 hL] at hg;have hlen:(dig Z n).length=bS n:=rfl;refine L9 (x:=0) hg ak aa ?_;rw [<- hL];refine hq s 1 true _ ag ?_ (.inl rfl) (fun j hj=>by rw [List.getElem?_set_ne (Ne.symm hj)])
  have e1:(dig Z n++[0]).take (bS n)++[0]++(dig Z n++[0]).drop (bS n+1)=dig Z n++[0]:=by
   rw [<- hlen,V8,Y8 ag,X6]
  rw [e1];simp [hl]
theorem NI {s t n c k:Nat} {h:Hp} {q:V->Hp->Prop} {u:PU q} (hst:s≠t) (hg:h[s]? = some (1,.data 1 ((bh c n).map u6) true false)) (ht:h[t]? = some (0,.none)) (hL:bS n=c∨bS n+1=c) (hc:c+k<1000000)
  (hq:∀ t1 s' h',h'.length=h.length->(s'=s∨s'=t)->(∀ j,j≠s'->h'[j]? = h[j]?)->(∃ (e':Nat) (l:List Nat) (ex:Bool),h'[s']? = some (e',.data 1 (l.map u6) ex false)) ->
   (∀ P:Hp->Prop,(∀ g,P g->g[s']? = h'[s']?)->RdS P t1 (dig Z n++List.replicate k 0))->q t1 h') :
  rh (apZ false t 1 8 [.int .u64 0] (.ref s 1 0 (bS n) c c) (I (k:Nat)) h) q u:=by
 have hl:=bL hg;have hl2:=bL ht;have hlen:(dig Z n).length=bS n:=rfl;unfold rh apZ;simp only;rw [if_pos ⟨aa,aa⟩];unfold apC;simp only [Int.toNat_natCast]
 have rdOf:∀ {s' e' len cap tot:Nat} {l:List Nat} {ex:Bool} {h':Hp},h'[s']? = some (e',.data 1 (l.map u6) ex false)->tot=l.length->len<=tot->l.take len=dig Z n++List.replicate k 0 ->
   ∀ P:Hp->Prop,(∀ g,P g->g[s']? = h'[s']?)->RdS P (.ref s' e' 0 len cap tot) (dig Z n++List.replicate k 0):=by
  intro s' e' len cap tot l ex h' hg' htot hle htk P hP;refine ⟨?_,fun g i hg2 hi=>?_⟩
  ·have:(dig Z n++List.replicate k 0).length=len:=by rw [<- htk,Zh];omega
   rw [this];rfl
  ·have:=(BJ (h:=g) (cap:=cap) ((hP g hg2).trans hg') htot hle).2 [] i (by rw [htk];exact hi);rw [X6,htk] at this;exact this
 by_cases hk:k=0
 ·rw [if_pos hk,if_pos aa];subst hk;refine hq _ s h rfl (.inl rfl) (fun _ _=>rfl) ⟨_,_,_,hg⟩ ?_;refine rdOf hg (cI ..).symm aa ?_;rw [List.replicate_zero,X6];rcases hL with hL | hL
  ·rw [<- hL,ya,<- hlen,Xk]
  ·rw [x9 hL,<- hlen,V8]
 ·rw [if_neg hk,TC];simp only [eW hg];rw [if_pos ⟨trivial,by simp [cI],aa,by simp [cI],ag⟩];by_cases hin:bS n+k<=c
  ·rw [if_pos hin];have hk1:k=1:=aa;subst hk1;have hL2:bS n+1=c:=aa;simp only [Bool.or_self,Zk,if_false,cw]
   have e1:((bh c n).map u6).take (0+bS n*1)++(List.replicate 1 0).map u6++((bh c n).map u6).drop (0+(bS n+1)*1)=(dig Z n++[0]).map u6:=by
    rw [x9 hL2,Zg,Zg,Yb,Yb,<- hlen];simp [<- List.map_take,<- List.map_drop]
   rw [e1];refine hq _ s _ ag (.inl rfl) (fun j hj=>by rw [List.getElem?_set_ne (Ne.symm hj)]) ⟨1,dig Z n++[0],true,by simp [hl]⟩ ?_;refine rdOf (l:=dig Z n++[0]) (ex:=true) (by simp [hl]) ak aa ?_;rw [Zx ak];rfl
  ·rw [if_neg hin,if_pos aa];simp only [if_true,new,ht]
   have e1:(((bh c n).map u6).drop 0).take (bS n*1)++(List.replicate k 0).map u6=(dig Z n++List.replicate k 0).map u6:=by
    rw [Yl,Yb,<- List.map_take,Xo];congr 2;rcases hL with hL | hL
    ·rw [<- hL,ya,<- hlen,Xk]
    ·rw [x9 hL,<- hlen,V8]
   rw [e1];have e2:bS n*1+((List.replicate k 0).map u6).length=bS n+k:=ag;rw [e2];refine hq _ t _ ag (.inr rfl) (fun j hj=>by rw [List.getElem?_set_ne (Ne.symm hj)]) ⟨1,dig Z n++List.replicate k 0,false,by simp [hl2]⟩ ?_;refine rdOf (l:=dig Z n++List.replicate k 0) (ex:=false) (by simp [hl2]) ak aa ?_;rw [Zx ak]
def NV (h:Hp):Prop:=∀ (j:Nat) (x:Nat × Bk),h[j]? = some x->∀ b,eY b x.2=true
theorem NV.all {h:Hp} (hn:NV h) (b:Nat):(h.all fun x=>eY b x.2)=true:=by
 rw [Zu];intro x hx;obtain ⟨j,hj⟩:=Wq.1 hx;exact hn j x hj b
theorem NV.upd {h h':Hp} (hn:NV h) {s e:Nat} {l:List Nat} {ex fr:Bool} (hs:h'[s]? = some (e,.data 1 (l.map u6) ex fr)) (ho:∀ j,j≠s->h'[j]? = h[j]?):NV h':=by
 intro j x hj b;by_cases e1:j=s
 ·subst e1;rw [hs] at hj;cases hj;rfl
 ·rw [ho j e1] at hj;exact hn j x hj b
theorem P0 {α:Type} {l:List α} {i:Nat} {x:α} (h:l[i]? = some x):l.set i x=l:=by
 apply Xr;intro j;by_cases e:i=j
 ·subst e;rw [List.getElem?_set_self (bL h),h]
 ·rw [List.getElem?_set_ne e]
theorem Mw {h:Hp} {s e:Nat} {ex:Bool} {l:List Nat} (hs:h[s]? = some (e,.data 1 (l.map u6) ex false)):sP h s e ex l=h:=P0 hs
theorem EU {h:Hp} {s e n m:Nat} {ex:Bool} {L:List Nat} {w:V} (hn:NV h) (hlt:s<h.length) (h3:L.length=n) (b1:val Z L=m) (b2:aH Z L) (hm:n<1000000) (kk:V->V) (hkk:∀ h':Hp,out w (kk (S (ah m))) h') {sl:Nat} :
  cai (CX Y).i (sP h s e ex L) (V.fn F.aA [] []) [.ref s e 0 n n n] sl fun v22 h=>
    cal (CX Y).p h (V.fn F.aL [] []) [v22] fun v23 h=>out w (kk v23) h:=by
 have nv:NV (sP h s e ex L):=hn.upd (qF hlt) (fun j hj=>by unfold sP;rw [List.getElem?_set_ne (Ne.symm hj)]);have tr:=sw (h:=sP h s e ex L) (nv.all _) (s:=s) (e:=e) (ex:=ex) (fr:=false) (qF hlt) h3.symm (len:=n) (cap:=n) (Z7 _) aa (Z7 _);have ht:gD (L.take n)=dig Z m:=by rw [Zx aa,<- b1,pU ay b2]
 rw [ht] at tr;refine nX tr ?_ ag;have lt:m<Z ^ n:=by rw [<- b1,<- h3];exact iT bp b2
 have hl:(dig Z m).length<=n:=(nS ay).2 lt;have sM:=uG (h:=sP h s e ex L) (s:=s) (e:=e) (ex:=ex) (fr:=false) (qF hlt) h3.symm (len:=(dig Z m).length) (cap:=n) hl (Z7 _)
 have ht2:L.take (dig Z m).length=dig Z m:=by
  have e:gD L=dig Z m:=by rw [<- ht,Zx aa]
  obtain ⟨z,hz⟩:=ES L;rw [e] at hz;rw [hz];exact V8 ..
 rw [ht2] at sM;refine cdz (u:=.mk) (by simp only [ai,sM];rfl) (vq (n:=m) aa) ?_;rw [show gW (S (ah m))=true from rfl,if_pos rfl];exact hkk _
theorem Dp {a b:Nat} (ha:ndg a<1000000) (hb:ndg b<1000000):CP Y F.iy [S (ah a),S (ah b)] (S (ah (a+b))):=by
 refine EE ?_;have bo:=BF a b;by_cases h18:ndg a<=18∧ndg b<=18
 ·rw [if_pos h18] at bo;have g3:10 ^ ndg a<=10 ^ 18:=Z2 ae h18.1;have g4:10 ^ ndg b<=10 ^ 18:=Z2 ae h18.2;have b1:a<1000000000000000000:=Z0 (cT a) g3;have b2:b<1000000000000000000:=Z0 (cT b) g4;simp (disch:=try exact ac)[iy];refine cd bo ?_;obtain ⟨m,hm⟩:∃ m,a+b=m:=⟨_,rfl⟩
  have em:(a:Int)+(b:Int)=(m:Int):=aa;rw [hm];simp (disch:=try exact ac)[em];refine cd (za (n:=m) aa) ?_;exact d8 rfl
 rw [if_neg h18] at bo;obtain ⟨ca,hca⟩:∃ ca,ca=ndg a / 9+1:=⟨_,rfl⟩;obtain ⟨cb,hcb⟩:∃ cb,cb=ndg b / 9+1:=⟨_,rfl⟩;have cA:=rU (h:=[(0,.none),(0,.none),(0,.none),(0,.none),(0,.none),(0,.none)]) rfl (n:=a) aa hca;have cB:=rU (h:=[(1,.data 1 ((bh ca a).map u6) true false),(0,.none),(0,.none),(0,.none),(0,.none),(0,.none)]) rfl (n:=b) aa hcb
 have LA:bS a=ca∨bS a+1=ca:=by rw [hca];exact BB
 have LB:bS b=cb∨bS b+1=cb:=by rw [hcb];exact BB
 have hli:∀ h:Hp,dF 1 [D.int .u64 0] [(0,V.d (D.int .u64 0))] h=some ([u6 0],h):=fun h=>by simp [dF,gC,jy,toD,u6]
 have main:∀ (p q cp cq sp sq:Nat) (h:Hp),p+q=a+b->bS q<=bS p->cp<200000->cq<200000->(bS p=cp∨bS p+1=cp)->(bS q=cq∨bS q+1=cq)->sp<2->sq<2->sp≠sq->h.length=6->NV h ->
   h[sp]? = some (1,.data 1 ((bh cp p).map u6) true false)->h[sq]? = some (1,.data 1 ((bh cq q).map u6) true false)->h[2]? = some (0,.none)->h[3]? = some (0,.none) ->
   apV false 2 1 8 (.ref sp 1 0 (bS p) cp cp) (.d (.sl 1 [u6 0])) h fun v15 h=>
   bnd (bm v15) fun v16=>
   bnd (biI .sub v16 (.d (.int .i64 1))) fun v17=>
   bnd (bm (.ref sq 1 0 (bS q) cq cq)) fun v18=>
   bnd (biI .sub v17 v18) fun v19=>
   apZ false 3 1 8 [.int .u64 0] (.ref sq 1 0 (bS q) cq cq) v19 h fun v20 h=>
   cai (CX Y).i h (.fn F.cx [] []) [v15,v20,(.d (.int .i64 0))] 4 fun v21 h=>
   cai (CX Y).i h (.fn F.aA [] []) [v15] 5 fun v22 h=>
   cal (CX Y).p h (.fn F.aL [] []) [v22] fun v23 h=>
   out (S (ah (a+b))) v23 h:=by
  intro p q cp cq sp sq h hpq hle hcp hcq LP LQ hsp hsq hne hlen hnv gp gq g2 g3;refine NL (u:=.mk) (t:=2) aa gp g2 LP aa fun s' e' ex h1 l1 gs' hs' o1=>?_
  obtain ⟨k,hk⟩:∃ k,k=bS p-bS q:=⟨_,rfl⟩;have e1:(bS p:Int)+1-1-(bS q:Int)=(k:Int):=aa;have hr1:bm (.ref s' e' 0 (bS p+1) (bS p+1) (bS p+1))=some (I (bS p+1:Nat)):=rfl;have hr2:bm (.ref sq 1 0 (bS q) cq cq)=some (I (bS q:Nat)):=rfl
  have hb1:biI .sub (I ((bS p+1:Nat):Int)) (.d (.int .i64 1))=some (I (bS p)):=by
   rw [tR,show (((bS p+1:Nat):Int)-1)=(bS p:Int) by omega,rZ aa aa]
  have hb2:biI .sub (I (bS p:Int)) (I (bS q:Int))=some (I k):=by
   rw [tR,show ((bS p:Int)-(bS q:Int))=(k:Int) by omega,rZ aa aa]
  simp only [hr1,hr2,hb1,hb2,bnd];have nv1:=hnv.upd gs' o1;have hqs:sq≠s':=by rcases hs' with rfl | rfl <;> omega
  have h3s:3≠s':=by rcases hs' with rfl | rfl <;> omega
  refine NI (u:=.mk) (t:=3) aa ((o1 sq hqs).trans gq) ((o1 3 h3s).trans g3) LQ aa fun t1 s2 h2 l2 hs2 o2 ⟨e2,l2',ex2,g2'⟩ rd=>?_
  have nv2:=nv1.upd g2' o2;have hss:s'≠s2:=by rcases hs2 with rfl | rfl <;> omega
  have gs2:h2[s']? = some (e',.data 1 ((dig Z p++[0]).map u6) ex false):=(o2 s' hss).trans gs';have lt2:s'<h2.length:=bL gs2;have hdl:(dig Z q++List.replicate k 0).length=bS p:=by simp only [Zl,Y6];show bS q+k=_;omega
  have sD:aH Z (dig Z q++List.replicate k 0):=qe (cj ay q) (om _);have vD:val Z (dig Z q++List.replicate k 0)=q:=by rw [m9,gS ay]
  have rdS:=rd (fun t=>∃ l,t=sP h2 s' e' ex l) (fun g ⟨l,hg⟩=>by rw [hg];unfold sP;rw [List.getElem?_set_ne hss]);obtain ⟨c1,c2,c3⟩:=SS (n:=bS p) rfl hdl (cj ay p) sD (gS ay p) vD
  have bk:=Kx (at_:=0) (tot:=bS p+1) (l:=dig Z p++[0]) (ex:=ex) (e:=e') (s:=s') (h:=h2) (nv2.all _) lt2 rdS sD (by rw [hdl];omega) aa (by simp [bS]) (qe (cj ay p) (om 1));rw [Mw gs2] at bk;refine nX bk ?_ ag;rw [hpq] at c1;exact EU nv2 lt2 c3 c1 c2 aa (fun v=>v) (fun _=>d8 rfl)
 simp (disch:=try exact ac)[iy];refine cd bo ?_;simp (disch:=try exact ac)[];refine mA (iP (e:=0) (b:=.none) cA rfl ?_);rw [List.length_map,cI];simp (disch:=try exact ac)[];refine mA (iP (e:=0) (b:=.none) cB rfl ?_);rw [List.length_map,cI]
 have nv:NV [(1,.data 1 ((bh ca a).map u6) true false),(1,.data 1 ((bh cb b).map u6) true false),(0,.none),(0,.none),(0,.none),(0,.none)]:=by
  intro j x hj b';rcases Wq.2 ⟨j,hj⟩ with hm;simp only [Zt,Zf,or_false] at hm;rcases hm with rfl | rfl | rfl | rfl | rfl | rfl <;> rfl
 by_cases g1:((dig Z a).length:Int)<((dig Z b).length:Int)
 ·simp (disch:=try exact ac)[g1];refine aZ ?_;simp (disch:=try exact ac)[hli];exact main b a cb ca 1 0 _ aa (by unfold bS;omega) aa aa LB LA aa aa aa rfl nv rfl rfl rfl rfl
 ·simp (disch:=try exact ac)[g1];refine aZ ?_;simp (disch:=try exact ac)[hli];exact main a b ca cb 0 1 _ rfl (by unfold bS;omega) aa aa LA LB aa aa aa rfl nv rfl rfl rfl rfl
theorem Fl:∀ (s t:List UInt8) (c:Nat),s.length=t.length->s.all mY=true->t.all mY=true->Op.bytesLess s t=decide (d9 c s<d9 c t)
 | [],[],c,_,_,_=>by simp [Op.bytesLess]
 | x::s,y::t,c,hl,hs,ht=>by
  simp only [List.length_cons,Nat.add_right_cancel_iff] at hl;simp only [List.all_cons,Z8] at hs ht;have hx:=jg.1 hs.1;have hy:=jg.1 ht.1
  have key:∀ (s t:List UInt8) (u v:Nat),s.length=t.length->s.all mY=true->u<v->d9 u s<d9 v t:=by
   intro s t u v hl hs h;have h1:=sT s u hs;have h2:=xW t v;rw [<- hl] at h2;have h3:(u+1)*10 ^ s.length<=v*10 ^ s.length:=Z3 _ h;omega
  rw [iH,iH];have ex:x<y↔x.toNat<y.toNat:=UInt8.lt_iff_toNat_lt;have ey:y<x↔y.toNat<x.toNat:=UInt8.lt_iff_toNat_lt;rcases Nat.lt_trichotomy x.toNat y.toNat with h | h | h
  ·have:=key s t (c*10+(x.toNat-48)) (c*10+(y.toNat-48)) hl hs.2 aa;rw [decide_eq_true this];simp [Op.bytesLess,ex.2 h]
  ·have e:x=y:=UInt8.toNat_inj.1 h;subst e;rw [<- Fl s t _ hl hs.2 ht.2];simp [Op.bytesLess]
  ·have:=key t s (c*10+(y.toNat-48)) (c*10+(x.toNat-48)) hl.symm ht.2 aa;rw [decide_eq_false aa];have h1:¬ x<y:=fun g=>by have:=ex.1 g;omega
   have h2:¬ x=y:=fun g=>by subst g;omega
   simp [Op.bytesLess,h1,h2]
theorem Fq (n:Nat):(ah n).all mY=true:=sY _ _
theorem Fj {a b:Nat} (h:ndg a=ndg b):Op.bytesLess (ah a) (ah b)=decide (a<b):=by
 rw [Fl (ah a) (ah b) 0 (by rw [ah,ah,bb,bb,h]) (Fq _) (Fq _),dt,dt]
theorem QZ {a b:Nat} (h:ndg a<ndg b):a<b:=by
 rcases Zj a b with g | g
 ·exact g
 ·have:=dN g;omega
theorem Dw {a b:Nat} (h:a<b):Big.cmp a b = -1:=if_pos h
theorem Dx {a b:Nat} (h:b<a):Big.cmp a b=1:=(if_neg aa).trans (if_pos h)
theorem cmp_eq {a:Nat}:Big.cmp a a=0:=(if_neg aa).trans (if_neg aa)
theorem vP {a b:Nat} (ha:ndg a<1000000) (hb:ndg b<1000000):CP Y F.bZ [S (ah a),S (ah b)] (I (Big.cmp a b)):=by
 refine yv ?_;have la:=kE a;have lb:=kE b;by_cases hl:ndg a=ndg b
 ·have h1:=Fj hl;have h2:=Fj hl.symm;have e1:biS .lss (S (ah a)) (S (ah b))=some (.d (.bool (decide (a<b)))):=by rw [<- h1];rfl
  have e2:biS .gtr (S (ah a)) (S (ah b))=some (.d (.bool (decide (b<a)))):=by
   have h3:(ah a == ah b)=decide (a=b):=by
    rw [Y0];simp only [beq_iff_eq,decide_eq_true_eq];exact ⟨oF,fun h=>by rw [h]⟩
   have h4:decide (b<a) = !(decide (a<b) || decide (a=b)):=by
    rw [Y0];simp only [decide_eq_true_eq,Y7,Bool.or_eq_false_iff,decide_eq_false_iff_not];omega
   rw [h4,<- h1,<- h3];rfl
  rw [hl] at la;by_cases g1:a<b
  ·simp (disch:=try exact ac)[bZ,la,lb,e1,e2,g1];exact bX (Dw g1).symm
  ·by_cases g2:b<a
   ·simp (disch:=try exact ac)[bZ,la,lb,e1,e2,g1,g2];exact bX (Dx g2).symm
   ·simp (disch:=try exact ac)[bZ,la,lb,e1,e2,g1,g2];have:a=b:=aa;subst this;exact bX cmp_eq.symm
 ·have hne:¬ ((ndg a:Int)=(ndg b:Int)):=aa;rcases Zj (ndg a) (ndg b) with h | h
  ·have h3:=QZ h;have m1:mxI true [.d (.int .i64 (-1)),I ((ndg a:Int)-ndg b)]=some (I (-1)):=by simp [mxI,mx2];omega
   have m2:mxI false [.d (.int .i64 1),I (-1)]=some (I (-1)):=rfl;simp (disch:=try exact ac)[bZ,la,lb,hne,m1,m2];exact bX (Dw h3).symm
  ·have h3:b<a:=QZ aa;have m1:mxI true [.d (.int .i64 (-1)),I ((ndg a:Int)-ndg b)]=some (I ((ndg a:Int)-ndg b)):=by simp [mxI,mx2];omega
   have m2:mxI false [.d (.int .i64 1),I ((ndg a:Int)-ndg b)]=some (I 1):=by simp [mxI,mx2];omega
   simp (disch:=try exact ac)[bZ,la,lb,hne,m1,m2];exact bX (Dx h3).symm
theorem Jh:1<Z:=ay
theorem PC {A D:List Nat} {a b n:Nat} (hA:A.length=n) (hD:D.length=n) (sA:aH Z A) (sD:aH Z D) (va:val Z A=a) (vb:val Z D=b) (hba:b<=a) :
  val Z (ik 1 0 D (D.length+1) 0 0 0 (A++[0])).2=a-b∧aH Z (ik 1 0 D (D.length+1) 0 0 0 (A++[0])).2∧(ik 1 0 D (D.length+1) 0 0 0 (A++[0])).2.length=n+1:=by
 have sA0:aH Z (A++[0]):=qe sA (om 1);have l2:=iT bp sD;rw [vb,hD] at l2
 obtain ⟨h1,h2,h3,h4⟩:=BY (g:=1) (at_:=0) Jh sD (D.length+1) 0 0 0 (A++[0]) ak bp (Yp _) sA0 (by
  rw [Yl,vb,hD,Xs,Zg,Nat.pow_succ];exact Z0 l2 (Zd _ bp))
 have e2:val Z (A++[0])=a:=by rw [show ([0]:List Nat)=List.replicate 1 0 from rfl,m9,va]
 have hl:(ik 1 0 D (D.length+1) 0 0 0 (A++[0])).2.length=n+1:=by rw [h1.1];simp [hA]
 refine ⟨?_,h2,hl⟩;have h5:=iT bp h2;rw [hl] at h5;rw [e2,Yl,vb,hD] at h4;rw [hD] at h3 h5 ⊢;generalize val Z (ik 1 0 D (n+1) 0 0 0 (A++[0])).2=x at *;generalize (ik 1 0 D (n+1) 0 0 0 (A++[0])).1=c at *;simp only [Zg,Nat.add_zero,Nat.pow_zero,Xs] at h4;rcases Ze c with h | h
 ·subst h;omega
 ·have:c=1:=aa;subst this;rw [Yb] at h4;omega
theorem zF {a b:Nat} (hba:b<=a) (ha:ndg a < 1000000):CP Y F.jj [S (ah a),S (ah b)] (.tup [S (ah (a - b)),I 0]):=by
 have hb:ndg b < 1000000:=Zc (dN hba) ha;refine Ey ?_;have bo:=BF a b;have dc:=vP ha hb
 have hc:¬ Big.cmp a b < 0:=by
  unfold Big.cmp;rw [if_neg aa];split <;> omega
 have hc2:(-1:Int)<=Big.cmp a b∧Big.cmp a b<=1:=by
  unfold Big.cmp;split
  ·omega
  ·split <;> omega
 generalize Big.cmp a b=cc at *;simp (disch:=try exact ac)[jj];refine cd dc ?_;simp (disch:=try exact ac)[hc];by_cases h18:ndg a<=18∧ndg b<=18
 ·rw [if_pos h18] at bo;have g3:10 ^ ndg a<=10 ^ 18:=Z2 ae h18.1;have b1:a < 1000000000000000000:=Z0 (cT a) g3;refine cd bo ?_;obtain ⟨m,hm⟩:∃ m,a - b=m:=⟨_,rfl⟩;have em:(a:Int) - (b:Int)=(m:Int):=aa;rw [hm];simp (disch:=try exact ac)[em];refine cd (za (n:=m) aa) ?_;exact ax rfl rfl
 rw [if_neg h18] at bo;obtain ⟨ca,hca⟩:∃ ca,ca=ndg a / 9+1:=⟨_,rfl⟩;obtain ⟨cb,hcb⟩:∃ cb,cb=ndg b / 9+1:=⟨_,rfl⟩;have cA:=rU (h:=[(0,.none),(0,.none),(0,.none),(0,.none),(0,.none),(0,.none),(0,.none)]) rfl (n:=a) aa hca;have LA:bS a=ca∨bS a+1=ca:=by rw [hca];exact BB
 have LB:bS b=cb∨bS b+1=cb:=by rw [hcb];exact BB
 have hle:bS b<=bS a:=(nS ay).2 (Zc hba (GX a));have hli:∀ h:Hp,dF 1 [D.int .u64 0] [(0,V.d (D.int .u64 0))] h=some ([u6 0],h):=fun h=>by simp [dF,gC,jy,toD,u6]
 refine cd bo ?_;simp (disch:=try exact ac)[];refine mA (iP (e:=0) (b:=.none) cA rfl ?_);rw [List.length_map,cI];simp (disch:=try exact ac)[hli]
 have nv:NV [(1,.data 1 ((bh ca a).map u6) true false),(0,.none),(0,.none),(0,.none),(0,.none),(0,.none),(0,.none)]:=by
  intro j x hj b';rcases Wq.2 ⟨j,hj⟩ with hm;simp only [Zt,Zf,or_false] at hm;rcases hm with rfl | rfl | rfl | rfl | rfl | rfl | rfl <;> rfl
 refine NL (s:=0) (t:=1) (n:=a) (c:=ca) aa rfl rfl LA aa fun s1 e1 ex1 h1 l1 g1 hs1 o1=>?_
 have nv1:=nv.upd g1 o1;have k1:∀ j,2<=j->h1[j]? = ([(1,.data 1 ((bh ca a).map u6) true false),(0,.none),(0,.none),(0,.none),(0,.none),(0,.none),(0,.none)]:Hp)[j]?:=fun j hj=>o1 j aa
 have hr1:bm (.ref s1 e1 0 (bS a+1) (bS a+1) (bS a+1))=some (I (bS a+1:Nat)):=rfl
 have hb1:biI .sub (I ((bS a+1:Nat):Int)) (.d (.int .i64 1))=some (I (bS a)):=by
  rw [tR,show (((bS a+1:Nat):Int) - 1)=(bS a:Int) by omega,rZ aa aa]
 -- the second number, twice
 have cB:=rU (h:=h1) (nv1.all _) (n:=b) aa hcb;refine mA (u:=.mk) (iP (e:=0) (b:=.none) cB (k1 2 aa) ?_);rw [List.length_map,cI];have l2:(h1.set 2 (1,.data 1 ((bh cb b).map u6) true false)).length=7:=by simp [l1]
 have n2:(2:Nat) < h1.length:=by rw [l1];simp
 have g2:(h1.set 2 (1,.data 1 ((bh cb b).map u6) true false))[2]? = some (1,.data 1 ((bh cb b).map u6) true false):=by simp [n2]
 have o2:∀ j,j≠2->(h1.set 2 (1,.data 1 ((bh cb b).map u6) true false))[j]? = h1[j]?:=fun j hj=>by rw [List.getElem?_set_ne (Ne.symm hj)]
 have nv2:=nv1.upd g2 o2;generalize h1.set 2 (1,.data 1 ((bh cb b).map u6) true false)=h2 at *
 show bnd (bm (.ref s1 e1 0 (bS a+1) (bS a+1) (bS a+1))) _
 simp only [hr1,hb1,bnd];have cB2:=rU (h:=h2) (nv2.all _) (n:=b) aa hcb;refine mA (u:=.mk) (iP (e:=0) (b:=.none) cB2 ((o2 3 ae).trans (k1 3 aa)) ?_);rw [List.length_map,cI];have n3:(3:Nat) < h2.length:=by rw [l2];simp
 have g3:(h2.set 3 (1,.data 1 ((bh cb b).map u6) true false))[3]? = some (1,.data 1 ((bh cb b).map u6) true false):=by simp [n3]
 have o3:∀ j,j≠3->(h2.set 3 (1,.data 1 ((bh cb b).map u6) true false))[j]? = h2[j]?:=fun j hj=>by rw [List.getElem?_set_ne (Ne.symm hj)]
 have nv3:=nv2.upd g3 o3;generalize h2.set 3 (1,.data 1 ((bh cb b).map u6) true false)=h3 at *;obtain ⟨k,hk⟩:∃ k,k=bS a - bS b:=⟨_,rfl⟩;have hr2:bm (.ref 3 (0+1) 0 (bS b) cb cb)=some (I (bS b:Nat)):=rfl
 have hb2:biI .sub (I (bS a:Int)) (I (bS b:Int))=some (I k):=by
  rw [tR,show ((bS a:Int) - (bS b:Int))=(k:Int) by omega,rZ aa aa]
 simp only [show bm (V.ref 3 (0+1) 0 (dig Z b).length cb cb)=some (I (bS b:Nat)) from rfl,hb2];have q2:h3[2]? = some (1,.data 1 ((bh cb b).map u6) true false):=(o3 2 ae).trans g2;have q4:h3[4]? = some (0,.none):=((o3 4 ae).trans (o2 4 ae)).trans (k1 4 aa)
 refine NI (u:=.mk) (s:=2) (t:=4) aa q2 q4 LB aa fun t1 s4 h4 l4 hs4 o4 ⟨e4,l4',ex4,g4⟩ rd=>?_
 have nv4:=nv3.upd g4 o4;have hss:s1≠s4:=by rcases hs1 with rfl | rfl <;> rcases hs4 with rfl | rfl <;> omega
 have h12:s1≠2∧s1≠3:=by rcases hs1 with rfl | rfl <;> omega
 have gs:h4[s1]? = some (e1,.data 1 ((dig Z a++[0]).map u6) ex1 false):=(((o4 s1 hss).trans (o3 s1 h12.2)).trans (o2 s1 h12.1)).trans g1;have lt4:=bL gs;have hdl:(dig Z b++List.replicate k 0).length=bS a:=by simp only [Zl,Y6];show bS b+k=_;omega
 have sD:aH Z (dig Z b++List.replicate k 0):=qe (cj ay b) (om _);have vD:val Z (dig Z b++List.replicate k 0)=b:=by rw [m9,gS ay]
 have rdS:=rd (fun t=>∃ l,t=sP h4 s1 e1 ex1 l) (fun g ⟨l,hg⟩=>by rw [hg];unfold sP;rw [List.getElem?_set_ne hss]);obtain ⟨c1,c2,c3⟩:=PC (n:=bS a) rfl hdl (cj ay a) sD (gS ay a) vD hba
 have bk:=Ij (g:=1) (at_:=0) (tot:=bS a+1) (l:=dig Z a++[0]) (ex:=ex1) (e:=e1) (s:=s1) (h:=h4) (nv4.all _) lt4 rdS sD Jh (by rw [hdl];omega) aa (by simp [bS]) (qe (cj ay a) (om 1));rw [Mw gs] at bk;refine mA (u:=.mk) (nX bk ?_ ag);exact EU nv4 lt4 c3 c1 c2 aa (fun v=>.tup [v,I 0]) (fun _=>ax rfl rfl)
theorem vw {z:Int} {w:Nat} (h:sdg z<=w):z.natAbs<10 ^ w:=by
 have:ndg z.natAbs<=w:=by unfold sdg at h;omega
 exact Z0 (cT _) (Z2 ae this)
theorem lH {z:Int} (h1 : -9223372036854775808<z) (h2:z<9223372036854775808):CP Y F.cC [I z] (S (itoa z)):=by
 refine BL ?_;simp (disch:=try exact ac)[cC];refine cd (Bs h1 h2) ?_;exact d8 rfl
theorem rz {a b k:Nat} (ha:ndg a<=k) (hb:ndg b<=k):ndg (a+b)<=k+1:=by
 have h1:a<10 ^ k:=Z0 (cT a) (Z2 ae ha);have h2:b<10 ^ k:=Z0 (cT b) (Z2 ae hb);exact bf (by rw [Nat.pow_succ];omega) aa
theorem S5 {z w:Int} (hz:ndg z.natAbs<999999) (hw:ndg w.natAbs<999999) : 
  cal (CX Y).p [] (.fn F.aO [] []) [S (itoa z)] fun v6 h=>
  ext v6 0 fun v7=>
  ext v6 1 fun v8=>
  cal (CX Y).p h (.fn F.aO [] []) [S (itoa w)] fun v9 h=>
  ext v9 0 fun v10=>
  ext v9 1 fun v11=>
  bnd (biB .eql v7 v10) fun v12=>
  cnd v12 (
   cal (CX Y).p h (.fn F.iy [] []) [v8,v11] fun v13 h=>
   cal (CX Y).p h (.fn F.b9 [] []) [v7,v13] fun v14 h=>
   out (S (itoa (z+w))) v14 h) (
   cal (CX Y).p h (.fn F.bZ [] []) [v8,v11] fun v15 h=>
   bnd (biI .lss v15 (.d (.int .i64 0))) fun v16=>
   jn (fun l17 h=>
    cal (CX Y).p h (.fn F.jj [] []) [(ge l17 1),(ge l17 2)] fun v19 h=>
    ext v19 0 fun v20=>
    ext v19 1 fun v21=>
    cal (CX Y).p h (.fn F.b9 [] []) [(ge l17 0),v20] fun v22 h=>
    out (S (itoa (z+w))) v22 h) fun q18=>
    cnd v16 (
     q18 [v10,v11,v8] h) (
     q18 [v7,v8,v11] h)):=by
 simp (disch:=try exact ac)[];refine cd (qc z) ?_;simp (disch:=try exact ac)[];refine cd (qc w) ?_;have eb:biB .eql (B (decide (z<0))) (B (decide (w<0)))=some (B (decide (z<0) == decide (w<0))):=rfl;simp (disch:=try exact ac)[eb];by_cases hs:(z<0↔w<0)
 ·simp (disch:=try exact ac)[hs];refine cd (Dp (a:=z.natAbs) (b:=w.natAbs) aa aa) ?_;simp (disch:=try exact ac)[];have hk:ndg (z.natAbs+w.natAbs)<=999999:=rz aa aa;refine cd (lN (decide (z<0)) (n:=z.natAbs+w.natAbs) aa) ?_;refine d8 ?_;congr 1;unfold sg;by_cases h:z<0
  ·simp [h];omega
  ·simp [h];omega
 ·simp (disch:=try exact ac)[hs];refine cd (vP (a:=z.natAbs) (b:=w.natAbs) aa aa) ?_;simp (disch:=try exact ac)[];by_cases hlt:z.natAbs<w.natAbs
  ·have hc:Big.cmp z.natAbs w.natAbs<0:=by rw [Dw hlt];decide
   refine fY (l:=[B (decide (w<0)),S (ah w.natAbs),S (ah z.natAbs)]) (h:=[]) (fun q=>by simp (disch:=try exact ac)[hc]) ?_;simp (disch:=try exact ac)[];refine cd (zF (a:=w.natAbs) (b:=z.natAbs) aa aa) ?_;simp (disch:=try exact ac)[]
   refine cd (lN (decide (w<0)) (n:=w.natAbs-z.natAbs) (Zc (dN (Nat.sub_le ..)) aa)) ?_;refine d8 ?_;congr 1;unfold sg;by_cases h:w<0
   ·simp [h];omega
   ·simp [h];omega
  ·have hc:¬ Big.cmp z.natAbs w.natAbs<0:=by
    rcases Nat.eq_or_lt_of_not_lt hlt with h | h
    ·rw [h,cmp_eq];decide
    ·rw [Dx h];decide
   refine fY (l:=[B (decide (z<0)),S (ah z.natAbs),S (ah w.natAbs)]) (h:=[]) (fun q=>by simp (disch:=try exact ac)[hc]) ?_;simp (disch:=try exact ac)[];refine cd (zF (a:=z.natAbs) (b:=w.natAbs) aa aa) ?_;simp (disch:=try exact ac)[]
   refine cd (lN (decide (z<0)) (n:=z.natAbs-w.natAbs) (Zc (dN (Nat.sub_le ..)) aa)) ?_;refine d8 ?_;congr 1;unfold sg;by_cases h:z<0
   ·simp [h];omega
   ·simp [h];omega
theorem sj {z w:Int} (hz:ndg z.natAbs<999999) (hw:ndg w.natAbs<999999):CP Y F.cD [S (itoa z),S (itoa w)] (S (itoa (z+w))):=by
 refine HZ ?_;have l1:=qH z 18 ae;have l2:=qH w 18 ae;have tl:=S5 hz hw;simp (disch:=try exact ac)[cD];refine cd l1 ?_;by_cases h1:sdg z<=18
 ·rw [if_pos h1];simp (disch:=try exact ac)[];by_cases h2:sdg w<=18
  ·rw [if_pos h2] at l2;refine aZ ?_;simp (disch:=try exact ac)[];refine cd l2 ?_;have b1:=vw h1;have b2:=vw h2;simp only [Nat.reducePow] at b1 b2;obtain ⟨m,hm⟩:∃ m,z+w=m:=⟨_,rfl⟩;rw [hm];simp (disch:=try exact ac)[hm];refine cd (lH (z:=m) aa aa) ?_;exact d8 rfl
  ·rw [if_neg h2] at l2;refine aZ ?_;simp (disch:=try exact ac)[];refine cd l2 ?_;simp (disch:=try exact ac)[];simpa using tl
 ·rw [if_neg h1];simp (disch:=try exact ac)[];refine aZ ?_;simp (disch:=try exact ac)[];simpa using tl
theorem qp {z w:Int} (hz:ndg z.natAbs<400000) (hw:ndg w.natAbs<400000):CP Y F.aI [S (itoa z),S (itoa w)] (S (itoa (z*w))):=by
 refine HU ?_;have l1:=qH z 9 ae;have l2:=qH w 9 ae;have dm:=FC (a:=z.natAbs) (b:=w.natAbs) aa aa
 have hk:ndg (z.natAbs*w.natAbs)<1000000:=by
  have h1:=cT z.natAbs;have h2:=cT w.natAbs;have h3:z.natAbs*w.natAbs<10 ^ (ndg z.natAbs+ndg w.natAbs):=by rw [Yy];exact Ym h1 h2
  have:=bf h3 (by have:=jB z.natAbs;omega);omega
 have e:sg (decide (z<0) != decide (w<0)) (z.natAbs*w.natAbs)=z*w:=by
  unfold sg;by_cases h1:z<0 <;> by_cases h2:w<0
  ·simp [h1,h2];rw [Xh aa,Xh aa,Int.neg_mul_neg]
  ·simp [h1,h2];rw [Xh aa,Wm aa,Wy,Int.neg_neg]
  ·simp [h1,h2];rw [Wm aa,Xh aa,Int.mul_neg,Int.neg_neg]
  ·simp [h1,h2];rw [Wm aa,Wm aa]
 have eb:biB .neq (B (decide (z<0))) (B (decide (w<0)))=some (B (decide (z<0) != decide (w<0))):=rfl;have jo:=lN (decide (z<0) != decide (w<0)) hk;rw [e] at jo
 have tail:∀ u:Unit,cal (CX Y).p [] (.fn F.aO [] []) [S (itoa z)] fun v6 h=>
  ext v6 0 fun v7=>
  ext v6 1 fun v8=>
  cal (CX Y).p h (.fn F.aO [] []) [S (itoa w)] fun v9 h=>
  ext v9 0 fun v10=>
  ext v9 1 fun v11=>
  bnd (biB .neq v7 v10) fun v12=>
  cal (CX Y).p h (.fn F.jk [] []) [v8,v11] fun v13 h=>
  cal (CX Y).p h (.fn F.b9 [] []) [v12,v13] fun v14 h=>
  out (S (itoa (z*w))) v14 h:=by
  intro _;simp (disch:=try exact ac)[];refine cd (qc z) ?_;simp (disch:=try exact ac)[];refine cd (qc w) ?_;simp (disch:=try exact ac)[eb];refine cd dm ?_;simp (disch:=try exact ac)[];refine cd jo ?_;exact d8 rfl
 simp (disch:=try exact ac)[aI];refine cd l1 ?_;by_cases h1:sdg z<=9
 ·rw [if_pos h1];simp (disch:=try exact ac)[];by_cases h2:sdg w<=9
  ·rw [if_pos h2] at l2;refine aZ ?_;simp (disch:=try exact ac)[];refine cd l2 ?_;have b1:=vw h1;have b2:=vw h2
   have hmb:(z*w).natAbs<1000000000000000000:=by
    rw [Zo];exact Ym b1 b2
   obtain ⟨m,hm⟩:∃ m,z*w=m:=⟨_,rfl⟩;rw [hm] at hmb ⊢;simp (disch:=try exact ac)[hm];refine cd (lH (z:=m) aa aa) ?_;exact d8 rfl
  ·rw [if_neg h2] at l2;refine aZ ?_;simp (disch:=try exact ac)[];refine cd l2 ?_;simp (disch:=try exact ac)[];simpa using tail ()
 ·rw [if_neg h1];simp (disch:=try exact ac)[];refine aZ ?_;simp (disch:=try exact ac)[];simpa using tail ()
theorem c8 (n:Nat):itoa (n:Int)=ah n:=by
 unfold itoa;rw [if_neg aa,Int.natAbs_natCast]
theorem Tt (n:Nat):sgn (n:Int)=if n=0 then 0 else 1:=by
 unfold sgn;by_cases h:n=0
 ·simp [h]
 ·rw [if_neg aa,if_neg aa,if_neg h]
theorem ID (n:Nat):CP Y F.bB [S (ah n)] (I (if n=0 then 0 else 1)):=by
 have:=kr (n:Int)
 rwa [c8,Tt] at this
theorem H4 {a b:Nat} (ha:ndg a<1000000) (hb:ndg b<1000000):CP Y F.ij [S (ah a),S (ah b)] (I (Big.cmp a b)):=by
 refine Av ?_;have s1:=ID a;have s2:=ID b;simp (disch:=try exact ac)[ij];by_cases h1:a=0
 ·rw [if_pos h1] at s1;by_cases h2:b=0
  ·rw [if_pos h2] at s2;refine cd s1 ?_;simp (disch:=try exact ac)[];refine cd s2 ?_;simp (disch:=try exact ac)[];refine cd (qd a) ?_;simp (disch:=try exact ac)[];refine cd (qd b) ?_;simp (disch:=try exact ac)[]
   refine fY (l:=[S (ah a),S (ah b)]) (h:=[]) (fun q=>by simp (disch:=try exact ac)[]) ?_;simp (disch:=try exact ac)[];refine cd (vP ha hb) ?_;exact bX rfl
  ·rw [if_neg h2] at s2;refine cd s1 ?_;simp (disch:=try exact ac)[];refine cd s2 ?_;simp (disch:=try exact ac)[];exact bX (Dw aa).symm
 ·rw [if_neg h1] at s1;by_cases h2:b=0
  ·rw [if_pos h2] at s2;refine cd s1 ?_;simp (disch:=try exact ac)[];refine cd s2 ?_;simp (disch:=try exact ac)[];exact bX (Dx aa).symm
  ·rw [if_neg h2] at s2;refine cd s1 ?_;simp (disch:=try exact ac)[];refine cd s2 ?_;simp (disch:=try exact ac)[];refine cd (qd a) ?_;simp (disch:=try exact ac)[];refine cd (qd b) ?_;simp (disch:=try exact ac)[]
   refine fY (l:=[S (ah a),S (ah b)]) (h:=[]) (fun q=>by simp (disch:=try exact ac)[]) ?_;simp (disch:=try exact ac)[];refine cd (vP ha hb) ?_;exact bX rfl
theorem Dg {a b:Nat} (hb:0<b):(-(a:Int)) / (b:Int)=(if a % b=0 then -((a / b:Nat):Int) else -((a / b+1:Nat):Int))∧(-(a:Int)) % (b:Int)=(if a % b=0 then 0 else ((b-a % b:Nat):Int)):=by
 have h1:=X5 a b;have h2:=Yw a hb;have hbz:(b:Int) > 0:=aa;generalize a % b=r at *;generalize a / b=q at *;by_cases h:r=0
 ·subst h;simp only [if_true]
  have e:(-(a:Int))=(b:Int)*(-(q:Int)):=by
   rw [Int.mul_neg,<- Int.natCast_mul];congr 1;omega
  rw [e];exact ⟨Int.mul_ediv_cancel_left _ aa,Int.mul_emod_right _ _⟩
 ·simp only [if_neg h]
  have e:(-(a:Int))=((b-r:Nat):Int)+(b:Int)*(-((q+1:Nat):Int)):=by
   have:(a:Int)=(b:Int)*q+r:=by rw [<- Int.natCast_mul];omega
   rw [this,Int.mul_neg,Int.natCast_add,Wl];have:((b-r:Nat):Int)=(b:Int)-r:=aa;omega
  have l1:(0:Int)<=((b-r:Nat):Int):=aa;have l2:((b-r:Nat):Int)<(b:Int):=aa;rw [e];constructor
  ·rw [Int.add_mul_ediv_left _ _ aa,Int.ediv_eq_zero_of_lt l1 l2,Xm]
  ·rw [Int.add_mul_emod_self_left,Int.emod_eq_of_lt l1 l2]
theorem xH:ndg 1=1:=aE
theorem vE {a b a' b':List UInt8} {c:Int} {h:Hp} (e1:a'=a) (e2:b'=b):out (.tup [S a,S b,I c]) (.tup [S a',S b',I c]) h:=by
 subst e1;subst e2;exact jc rfl rfl rfl
theorem Ux {z:Int} {b:Nat} (hb:0<b) (hz:ndg z.natAbs<900000) (hbd:ndg b<900000) :
   cal (CX Y).p [] (.fn F.aO [] []) [S (itoa z)] fun v7 h=>
   ext v7 0 fun v8=>
   ext v7 1 fun v9=>
   cal (CX Y).p h (.fn F.aO [] []) [S (ah b)] fun v10 h=>
   ext v10 0 fun v11=>
   ext v10 1 fun v12=>
   cal (CX Y).p h (.fn F.fB [] []) [v9,v12] fun v13 h=>
   ext v13 0 fun v14=>
   ext v13 1 fun v15=>
   ext v13 2 fun v16=>
   bnd (biI .neq v16 (.d (.int .i64 0))) fun v17=>
   cnd v17 (
    out (.tup [S (itoa (z / b)),S (itoa (z % b)),I 0]) (.tup [(.d (.str [])),(.d (.str [])),v16]) h) (
    bnd (biB .neq v8 v11) fun v18=>
    gd v18 true h (fun q=>q v15 h) fun v19 h=>
    gd v18 true h (fun q=>bnd (biS .neq v19 (.d (.str [48]))) fun v=>q v h) fun v20 h=>
    bnd (jb v18 v20 (.d (.bool false))) fun v21=>
    jn (fun l22 h=>
     bnd (biB .neq v8 v11) fun v24=>
     cal (CX Y).p h (.fn F.b9 [] []) [v24,(ge l22 0)] fun v25 h=>
     cal (CX Y).p h (.fn F.b9 [] []) [v11,(ge l22 1)] fun v26 h=>
     out (.tup [S (itoa (z / b)),S (itoa (z % b)),I 0]) (.tup [v25,v26,(.d (.int .i64 0))]) h) fun q23=>
     cnd v21 (
      cal (CX Y).p h (.fn F.iy [] []) [v14,(.d (.str [49]))] fun v27 h=>
      cal (CX Y).p h (.fn F.jj [] []) [v12,v15] fun v28 h=>
      ext v28 0 fun v29=>
      ext v28 1 fun v30=>
      q23 [v27,v29] h) (
      q23 [v14,v15] h)):=by
 have hq:ndg (z.natAbs / b)<=ndg z.natAbs:=dN (Yg ..);have hr:z.natAbs % b<b:=Yw _ hb;have hr2:ndg (z.natAbs % b)<=ndg b:=dN aa
 have eb:biB .neq (B (decide (z<0))) (B false)=some (B (decide (z<0))):=by
  show some (B (decide (z<0) != false))=_
  rw [Bool.bne_false]
 simp (disch:=try exact ac)[];refine cd (qc z) ?_;simp (disch:=try exact ac)[];refine cd (qd b) ?_;simp (disch:=try exact ac)[];refine cd (zx (a:=z.natAbs) hb aa aa) ?_;by_cases hneg:z<0
 ·have ez:z = -(z.natAbs:Int):=aa;obtain ⟨d1,d2⟩:=Dg (a:=z.natAbs) hb;rw [<- ez] at d1 d2;rw [decide_eq_true hneg] at eb ⊢;by_cases h0:z.natAbs % b=0
  ·rw [if_pos h0] at d1 d2;rw [h0,eO];simp (disch:=try exact ac)[eb];refine fY (l:=[S (ah (z.natAbs / b)),S [48]]) (h:=[]) (fun q=>by simp (disch:=try exact ac)[]) ?_;simp (disch:=try exact ac)[eb];refine cd (lN true (n:=z.natAbs / b) aa) ?_;simp (disch:=try exact ac)[]
   have j0:=lN false (n:=0) aE;rw [eO] at j0;refine cd j0 ?_;refine vE ?_ ?_
   ·rw [d1];rfl
   ·rw [d2];rfl
  ·rw [if_neg h0] at d1 d2;have h48:¬ ah (z.natAbs % b)=[48]:=fun h=>h0 (kG.1 h)
   have ad:=Dp (a:=z.natAbs / b) (b:=1) aa (by rw [xH];omega);rw [show ah 1=[49] by decide +kernel] at ad;simp (disch:=try exact ac)[eb,h48];refine aZ ?_;simp (disch:=try exact ac)[h48];refine cd ad ?_;simp (disch:=try exact ac)[];refine cd (zF (a:=b) (b:=z.natAbs % b) aa aa) ?_
   simp (disch:=try exact ac)[eb];have hq1:ndg (z.natAbs / b+1)<=900000+1:=rz aa (by rw [xH];omega);refine cd (lN true (n:=z.natAbs / b+1) aa) ?_;simp (disch:=try exact ac)[];refine cd (lN false (n:=b-z.natAbs % b) (Zc (dN (Nat.sub_le ..)) aa)) ?_;refine vE ?_ ?_
   ·rw [d1];rfl
   ·rw [d2];rfl
 ·rw [decide_eq_false hneg] at eb ⊢;simp (disch:=try exact ac)[eb];refine fY (l:=[S (ah (z.natAbs / b)),S (ah (z.natAbs % b))]) (h:=[]) (fun q=>by simp (disch:=try exact ac)[]) ?_;simp (disch:=try exact ac)[eb];refine cd (lN false (n:=z.natAbs / b) aa) ?_;simp (disch:=try exact ac)[]
  refine cd (lN false (n:=z.natAbs % b) aa) ?_;have ez:z=(z.natAbs:Int):=aa;refine vE ?_ ?_
  ·rw [ez,<- Int.natCast_ediv];rfl
  ·rw [ez,<- Int.natCast_emod];rfl
theorem s9 {z:Int} {b:Nat} (hb:0<b) (hz:ndg z.natAbs<900000) (hbd:ndg b<900000):CP Y F.aR [S (itoa z),S (ah b)] (.tup [S (itoa (z / b)),S (itoa (z % b)),I 0]):=by
 refine BN ?_;have l1:=qH z 18 ae;have l2:=Lz b 18 ae;have tl:=Ux hb hz hbd;have h48:¬ ah b=[48]:=fun h=>by have:=kG.1 h;omega
 simp (disch:=try exact ac)[aR,h48];refine cd l1 ?_;by_cases h1:sdg z<=18
 ·rw [if_pos h1];by_cases h2:ndg b<=18
  ·rw [if_pos h2] at l2;simp (disch:=try exact ac)[];refine aZ ?_;simp (disch:=try exact ac)[];refine cd l2 ?_;have b1:=vw h1;have b2:b<10 ^ 18:=Z0 (cT b) (Z2 ae h2);simp only [Nat.reducePow] at b1 b2;have hbz:¬ (b:Int)=0:=aa;obtain ⟨n,hn⟩:∃ n,n=z.natAbs:=⟨_,rfl⟩;rw [<- hn] at b1
   have hq:n / b<=n:=Yg ..;have hr:n % b<b:=Yw _ hb;by_cases hneg:z<0
   ·have ez:z = -(n:Int):=aa;obtain ⟨d1,d2⟩:=Dg (a:=n) hb;rw [<- ez] at d1 d2;have q1:z.tdiv (b:Int) = -((n / b:Nat):Int):=by rw [ez,Int.neg_tdiv,Zs aa,<- Int.natCast_ediv]
    have q2:z.tmod (b:Int) = -((n % b:Nat):Int):=by rw [ez,Int.neg_tmod,Zv aa,<- Int.natCast_emod]
    obtain ⟨q,hqq⟩:∃ q,q=n / b:=⟨_,rfl⟩;obtain ⟨r,hrr⟩:∃ r,r=n % b:=⟨_,rfl⟩;rw [<- hqq] at q1 d1 hq;rw [<- hrr] at q2 d1 d2 hr;by_cases h0:r=0
    ·rw [if_pos h0] at d1 d2;rw [h0] at q2;simp (disch:=try exact ac)[q1,q2];refine fY (l:=[I (-(q:Int)),I 0]) (h:=[]) (fun q=>by simp (disch:=try exact ac)[]) ?_;simp (disch:=try exact ac)[];refine cd (lH (z:=-(q:Int)) aa aa) ?_;simp (disch:=try exact ac)[];refine cd (lH (z:=0) aa aa) ?_
     refine vE ?_ ?_
     ·rw [d1]
     ·rw [d2]
    ·rw [if_neg h0] at d1 d2;have r0:¬ (-(r:Int))=0:=aa;have r1:(-(r:Int))<0:=aa;have r2:¬ (b:Int)<0:=aa;have eb:∀ x y:Bool,biB .neq (B x) (B y)=some (B (x != y)):=fun _ _=>rfl
     simp (disch:=try exact ac)[q1,q2,r0,r1,r2,eb];refine fY (l:=[I (-(q:Int)-1),I (-(r:Int)+b)]) (h:=[]) (fun q=>by simp (disch:=try exact ac)[r0,r1,r2]) ?_;simp (disch:=try exact ac)[];refine cd (lH (z:=-(q:Int)-1) aa aa) ?_;simp (disch:=try exact ac)[]
     refine cd (lH (z:=-(r:Int)+b) aa aa) ?_;refine vE ?_ ?_
     ·rw [d1];congr 1;omega
     ·rw [d2];congr 1;omega
   ·have ez:z=(n:Int):=aa;have q1:z.tdiv (b:Int)=((n / b:Nat):Int):=by rw [ez,Zs aa,<- Int.natCast_ediv]
    have q2:z.tmod (b:Int)=((n % b:Nat):Int):=by rw [ez,Zv aa,<- Int.natCast_emod]
    have d1:z / (b:Int)=((n / b:Nat):Int):=by rw [ez,<- Int.natCast_ediv]
    have d2:z % (b:Int)=((n % b:Nat):Int):=by rw [ez,<- Int.natCast_emod]
    obtain ⟨q,hqq⟩:∃ q,q=n / b:=⟨_,rfl⟩;obtain ⟨r,hrr⟩:∃ r,r=n % b:=⟨_,rfl⟩;rw [<- hqq] at q1 d1 hq;rw [<- hrr] at q2 d2 hr;have r1:¬ ((r:Int))<0:=aa;have r2:¬ (b:Int)<0:=aa;have eb:∀ x y:Bool,biB .neq (B x) (B y)=some (B (x != y)):=fun _ _=>rfl
    have fin:∀ h:Hp,cal (CX Y).p h (V.fn F.cC [] []) [I q] fun v45 h=>
      cal (CX Y).p h (V.fn F.cC [] []) [I r] fun v46 h=>out (V.tup [S (itoa (z / (b:Int))),S (itoa (z % (b:Int))),I 0]) (V.tup [v45,v46,V.d (D.int IntKind.i64 0)]) h:=by
     intro h;simp (disch:=try exact ac)[];refine cd (lH (z:=q) aa aa) ?_;simp (disch:=try exact ac)[];refine cd (lH (z:=r) aa aa) ?_;refine vE ?_ ?_
     ·rw [d1]
     ·rw [d2]
    by_cases h0:r=0
    ·rw [h0] at q2 fin;simp (disch:=try exact ac)[q1,q2];refine fY (l:=[I q,I 0]) (h:=[]) (fun q=>by simp (disch:=try exact ac)[]) ?_;exact fin []
    ·have r0:¬ (r:Int)=0:=aa;simp (disch:=try exact ac)[q1,q2,r0,r1,r2,eb];refine fY (l:=[I q,I r]) (h:=[]) (fun q=>by simp (disch:=try exact ac)[r0,r1,r2]) ?_;exact fin []
  ·rw [if_neg h2] at l2;simp (disch:=try exact ac)[];refine aZ ?_;simp (disch:=try exact ac)[];refine cd l2 ?_;simp (disch:=try exact ac)[];simpa using tl
 ·rw [if_neg h1];simp (disch:=try exact ac)[];refine aZ ?_;simp (disch:=try exact ac)[];simpa using tl
theorem O6 {a b:Nat} (ha0:0<a) (hb0:0<b) (ha:ndg a<400000) (hb:ndg b<400000):CP Y F.lU [S (ah a),S (ah b)] (S (ah (Nat.lcm a b))):=by
 refine EB ?_;have h1:¬ ah a=[48]:=fun h=>by have:=kG.1 h;omega
 have h2:¬ ah b=[48]:=fun h=>by have:=kG.1 h;omega
 have hg:0<Nat.gcd a b:=Nat.gcd_pos_of_pos_left _ ha0;have hgl:Nat.gcd a b<=a:=Nat.gcd_le_left _ ha0;have hq:ndg (a / Nat.gcd a b)<=ndg a:=dN (Yg ..);simp (disch:=try exact ac)[lU,h1,h2];refine cd (Nf aa aa) ?_;simp (disch:=try exact ac)[]
 refine cd (zx (a:=a) (b:=Nat.gcd a b) hg aa (by have:=dN hgl;omega)) ?_;simp (disch:=try exact ac)[];refine cd (FC (a:=a / Nat.gcd a b) (b:=b) aa aa) ?_;refine d8 ?_;congr 1;rw [Nat.lcm,Zy,<- Nat.mul_div_assoc _ (Wi a b),Zy]
theorem NM (n:Nat):CP Y F.iA [S (ah n)] (S (ah n)):=by
 have:=HD (n:Int)
 rwa [c8,Int.natAbs_natCast] at this
theorem Ta {a b:Nat} (ha0:0<a) (hb0:0<b) (ha:ndg a<400000) (hb:ndg b<400000):CP Y F.m7 [S (ah a),S (ah b)] (S (ah (Nat.lcm a b))):=by
 refine HW ?_;simp (disch:=try exact ac)[m7];refine cd (NM a) ?_;simp (disch:=try exact ac)[];refine cd (NM b) ?_;simp (disch:=try exact ac)[];refine cd (O6 ha0 hb0 ha hb) ?_;exact d8 rfl
theorem Oz {z:Int} (h:z.natAbs<9223372036854775808):CP Y F.fO [S (itoa z),I 10,I 64] (.tup [I z,.d (.pl .nilIface)]):=by
 have key:∀ n:Nat,n<9223372036854775808->(ah n)≠[]∧(ah n).all mZ=true∧(ah n).length<=1000∧nZ 0 (ah n)=n:=by
  intro n hn;have hd:=dt n;have hc:=qR n
  have hl:(ah n).length<=1000:=by
   have:=bf (n:=n) (d:=19) aa ae;rw [ah,bb];omega
  simp only [pj,Z8] at hc
  have hall:(ah n).all mZ=true:=by
   rw [<- hc.1.2];congr 1;funext c;exact digit_eq c
  exact ⟨sQ n,hall,hl,by rw [vO,hd]⟩
 have ho:Y.X.orc F.fO [.string ⟨⟨itoa z⟩⟩,.int .i64 10,.int .i64 64]=some (.tuple #[.int .i64 z,.nilIface]):=by
  have e:∀ a,Y.X.orc F.fO a=ML a:=fun a=>rfl
  rw [e];obtain ⟨k1,k2,k3,k4⟩:=key _ h;unfold ML;simp only;rw [if_pos ⟨trivial,trivial⟩];by_cases hz:z<0
  ·have e1:itoa z=45::ah z.natAbs:=by unfold itoa;rw [if_pos hz]
   rw [e1];simp only;rw [if_pos ⟨k1,k2,k3,by rw [k4];exact h⟩,k4,show (-((z.natAbs:Nat):Int))=z by omega]
  ·have e1:itoa z=ah z.natAbs:=by unfold itoa;rw [if_neg hz]
   rw [e1];have hh:=pd z.natAbs;have ez:((z.natAbs:Nat):Int)=z:=aa;generalize ah z.natAbs=L at *
   have fin:(if L≠[]∧L.all mZ=true∧L.length<=1000∧nZ 0 L<9223372036854775808 then some (Value.tuple #[.int .i64 (nZ 0 L),.nilIface]) else none)=some (Value.tuple #[.int .i64 z,.nilIface]):=by
    rw [if_pos ⟨k1,k2,k3,by rw [k4];exact h⟩,k4,ez]
   split
   ·rename_i l hl;exact absurd rfl hh
   ·exact fin
 exact CP.orc ho (by intro x hx;simp only [Zt,Zf,or_false] at hx;rcases hx with rfl | rfl | rfl <;> rfl) rfl
theorem vv {z:Int} (h:z.natAbs<9223372036854775808):CP Y F.ii [S (itoa z)] (.tup [I z,B true]):=by
 refine DX ?_;simp (disch:=try exact ac)[ii];refine cd (Oz h) ?_;simp (disch:=try exact ac)[GP];exact ax rfl rfl
def RdN (s:Nat) (h:Hp) (v:V) (d:List Nat):Prop:=∀ h':Hp,h'.length=h.length->(∀ j,j≠s->h'[j]? = h[j]?)->RdP h' v d∧∃ h2,aF h' v=some (lst u6 d,h2)
theorem RdN.now {s:Nat} {h:Hp} {v:V} {d:List Nat} (r:RdN s h v d):RdP h v d:=(r h rfl fun _ _=>rfl).1
theorem RdN.step {s:Nat} {h h2:Hp} {v:V} {d:List Nat} (r:RdN s h v d) (hl:h2.length=h.length) (hs:∀ j,j≠s->h2[j]? = h[j]?):RdN s h2 v d:=
 fun h' h1 h3=>r h' (h1.trans hl) fun j hj=>(h3 j hj).trans (hs j hj)
theorem RdN.new {s t e N m:Nat} {h:Hp} (hst:s≠t) (hg:h[t]? = some (e,.data 1 ((bh N m).map u6) true false)) (hm:m<Z ^ N):RdN s h (.ref t e 0 (dig Z m).length N N) (dig Z m):=fun h' hl ho=>by
 have:=BJ (h:=h') (cap:=N) ((ho t (Ne.symm hst)).trans hg) (cI ..).symm (ib hm);rw [mj hm] at this;have sn:=uG (h:=h') ((ho t (Ne.symm hst)).trans hg) (cI ..).symm (len:=(dig Z m).length) (cap:=N) (ib hm) (Z7 _);rw [mj hm] at sn;exact ⟨this,_,sn⟩
theorem and_one {n:Int} (h0:0<=n) (h1:n<9223372036854775808):biI .and (I n) (I 1)=some (I (n % 2)):=by
 obtain ⟨m,rfl⟩:∃ m:Nat,n=m:=⟨n.toNat,aa⟩
 have hb:(BitVec.ofInt 64 (m:Int) &&& BitVec.ofInt 64 1).toNat=m % 2:=by
  rw [BitVec.toNat_and]
  have e1:(BitVec.ofInt 64 (m:Int)).toNat=m:=by
   rw [BitVec.toNat_ofInt];omega
  have e2:(BitVec.ofInt 64 (1:Int)).toNat=1:=ae;rw [e1,e2,Nat.and_one_is_mod]
 simp only [biI,gN,ne_eq,not_true_eq_false,if_false,lI,iD]
 show some (V.d (.int .i64 (IntKind.wrap .i64 ((BitVec.ofInt 64 (m:Int) &&& BitVec.ofInt 64 1).toNat:Int))))=_
 rw [hb,rZ aa aa];rfl
theorem QM (k:KL):∀ (n A Bv:Nat) (o p:V) (h:Hp) (R:Nat),A * Bv ^ n=R->0 < A->0 < Bv->R < Z ^ 2000->n < 100000->h.length=3->NV h->RdN 2 h o (dig Z A)->RdN 1 h p (dig Z Bv) ->
  (∀ o' h' h2,h'.length=3->aF h' o'=some (lst u6 (dig Z R),h2)->NV h'->k (.exit 1) [o'] h')->∀ h0:Hp,h0.length=3->lp (jN (CX Y)) [] h0 [o,p,I n] h k:=by
 intro n
 induction n using Nat.strongRecOn with
 | ind n ih=>
  intro A Bv o p h R hR hA hB hlim hn hlen hnv ro rp hk h0 hl0;refine am ?_;by_cases hz:n=0
  ·subst hz;simp (disch:=try exact ac)[jN];rw [Nat.pow_zero,Yb] at hR;subst hR;obtain ⟨h2,hs2⟩:=(ro h rfl fun _ _=>rfl).2;exact hk o h h2 hlen hs2 hnv
  have hpos:(n:Int) > 0:=aa
  have hBR:Bv<=R:=by
   rw [<- hR];exact Z1 (Nat.le_of_eq (Nat.pow_one Bv).symm) (Z1 (Z2 hB aa) (Nat.le_mul_of_pos_left _ hA))
  have hAR:A<=R:=by rw [<- hR];exact Zd _ (Yk hB)
  have dA:(dig Z A).length<=2000:=ib aa;have dB:(dig Z Bv).length<=2000:=ib aa;have and1:=and_one (n:=(n:Int)) aa aa;have e2:((n:Int) / 2 ^ (1:Int).toNat)=((n / 2:Nat):Int):=ag
  have sh:biI .shr (I n) (.d (.int .u64 1))=some (I (n / 2:Nat)):=by
   rw [Tr aa aa,e2]
  have hn2:n / 2 < n:=aa
  -- what a product gives
  have times:∀ (h:Hp) (v w:V) (a b s:Nat),h.length=3->NV h->s < 3->RdP h v (dig Z a)->RdP h w (dig Z b)->(dig Z a).length<=2000->(dig Z b).length<=2000->∀ q:V->Hp->Prop,
    (∀ o' h',h'.length=3->NV h'->(∀ j,j≠s->h'[j]? = h[j]?)->(∀ t,t≠s->RdN t h' o' (dig Z (a * b)))->q o' h')->cai (CX Y).i h (V.fn F.bn [] []) [v,w] s q:=by
   intro h v w a b s hl hv hs r1 r2 d1 d2 q hq;obtain ⟨N,hN⟩:∃ N,N=(dig Z a).length+(dig Z b).length:=⟨_,rfl⟩;have tk:=yK (h:=h) (hv.all _) r1 (cj ay a) r2 (cj ay b) aa aa hN;rw [gS ay,gS ay] at tk;have hs3:s < h.length:=aa;have hm:a * b < Z ^ N:=by rw [hN,Yy];exact Ym (tD a) (tD b)
   refine iP (e:=h[s].1) (b:=h[s].2) tk (List.getElem?_eq_getElem hs3) ?_;rw [List.length_map,cI];have gs:(h.set s (h[s].1+1,.data 1 ((bh N (a * b)).map u6) true false))[s]? = some (h[s].1+1,.data 1 ((bh N (a * b)).map u6) true false):=by simp [hs3]
   have os:∀ j,j≠s->(h.set s (h[s].1+1,.data 1 ((bh N (a * b)).map u6) true false))[j]? = h[j]?:=fun j hj=>by rw [List.getElem?_set_ne (Ne.symm hj)]
   exact hq _ _ (by simp [hl]) (hv.upd gs os) os (fun t ht=>RdN.new ht gs hm)
  have fin:∀ (A' B':Nat) (o' p':V) (h':Hp),A' * B' ^ (n / 2)=R->0 < A'->0 < B'->h'.length=3->NV h'->RdN 2 h' o' (dig Z A')->RdN 1 h' p' (dig Z B')->rl (lp (jN (CX Y)) [] h0 [o',p',I ((n:Int) / 2)] h') k .mk:=by
   intro A' B' o' p' h' e1 e2 e3 e4 e5 e6 e7;rw [show ((n:Int) / 2)=((n / 2:Nat):Int) by omega];exact ih (n / 2) hn2 A' B' o' p' h' R e1 e2 e3 hlim aa e4 e5 e6 e7 hk h0 hl0
  have hdm:=X5 n 2;simp (disch:=try exact ac)[jN,hpos];refine aZ ?_;simp (disch:=try exact ac)[and1];by_cases hod:(n:Int) % 2=1
  ·have hod':n % 2=1:=aa
   have eR:A * Bv * (Bv * Bv) ^ (n / 2)=R:=by
    rw [<- hR]
    conv=>rhs;rw [<- hdm,hod',Yy,Nat.pow_mul,Nat.pow_one]
    rw [Nat.pow_two,Nat.mul_assoc,Zy Bv]
   refine aZ ?_;simp (disch:=try exact ac)[hod];refine mA (times h o p A Bv 1 hlen hnv aa ro.now rp.now dA dB _ fun o' h' l1 v1 s1 r1=>?_);have rp1:=rp.step (l1.trans hlen.symm) s1;have ro1:=r1 2 aa;simp (disch:=try exact ac)[];refine aZ ?_;by_cases h1:(n:Int) > 1
   ·simp (disch:=try exact ac)[h1];refine mA (times h' p p Bv Bv 2 l1 v1 aa rp1.now rp1.now dB dB _ fun p' h'' l2 v2 s2 r2=>?_);have ro2:=ro1.step (l2.trans l1.symm) s2;simp (disch:=try exact ac)[sh];exact fin _ _ o' p' h'' eR (Ys hA hB) (Ys hB hB) l2 v2 ro2 (r2 1 aa)
   ·have hn1:n=1:=aa;simp (disch:=try exact ac)[h1,sh];refine fin (A * Bv) Bv o' p h' ?_ (Ys hA hB) hB l1 v1 ro1 rp1;rw [<- eR];subst hn1;simp
  ·have hod':n % 2=0:=aa
   have eR:A * (Bv * Bv) ^ (n / 2)=R:=by
    rw [<- hR]
    conv=>rhs;rw [<- hdm,hod',Nat.add_zero,Nat.pow_mul]
    rw [Nat.pow_two]
   refine aZ ?_;simp (disch:=try exact ac)[hod];refine aZ ?_;have h1:(n:Int) > 1:=aa;simp (disch:=try exact ac)[h1];refine mA (times h p p Bv Bv 2 hlen hnv aa rp.now rp.now dB dB _ fun p' h'' l2 v2 s2 r2=>?_);have ro2:=ro.step (l2.trans hlen.symm) s2;simp (disch:=try exact ac)[sh]
   exact fin _ _ o p' h'' eR hA (Ys hB hB) l2 v2 ro2 (r2 1 aa)
theorem M4 {n:Nat} (h:n<18446744073709551616):CP Y F.jp [.d (.int .u64 n)] (I (bA n)):=by
 refine AJ ?_;simp (disch:=try exact ac)[jp];refine cd (CQ h) ?_;simp (disch:=try exact ac)[] <;> exact bX rfl
theorem vJ:ah 2=[50]:=aE
theorem eQ:ah 1=[49]:=aE
theorem SO:CP Y F.kf [S [50]] (I 2):=by
 refine Dm ?_;have h:=yO (n:=2) aa;rw [vJ] at h;have h2:=CQ (n:=2) aa;rw [show bA 2=2 by decide +kernel] at h2;simp (disch:=try exact ac)[kf];refine cd h ?_;simp (disch:=try exact ac)[];refine cd h2 ?_;exact bX rfl
theorem Pv {n K:Nat} (h:n / 3+1<=K):2 ^ n<10 ^ K:=by
 have h1:2 ^ n=8 ^ (n / 3)*2 ^ (n % 3):=by
  rw [show (8:Nat)=2 ^ 3 from rfl,<- Nat.pow_mul,<- Yy,X5]
 have h2:8 ^ (n / 3)<=10 ^ (n / 3):=Nat.pow_le_pow_left ae _
 have h3:2 ^ (n % 3)<=4:=by
  have:n % 3<3:=Yw _ ae;exact Z1 (Z2 ae (show n % 3<=2 by omega)) ae
 have h4:10 ^ (n / 3+1)<=10 ^ K:=Z2 ae h;have h5:=Zq h2 h3;rw [Nat.pow_succ] at h4;have h6:=Yk (n:=n / 3) (show 0<10 by decide);omega
theorem TU {n K:Nat} (h:n / 3+1<=K) (hK:0<K):ndg (2 ^ n)<=K:=bf (Pv h) hK
theorem ZP {n K:Nat} (h:n / 3+1<=K):2 ^ n<Z ^ K:=Z0 (Pv h) (Nat.pow_le_pow_left ae _)
theorem Bf {n:Nat} (hn:n<=4000):2 ^ n<Z ^ 2000∧ndg (2 ^ n)<=2000:=
 ⟨ZP (K:=2000) aa,TU (K:=2000) aa aa⟩
theorem O5 {n:Nat} (hn:n<=4000):CP Y F.iw [S [50],I n] (.tup [S (ah (2 ^ n)),I 0]):=by
 refine AV ?_;by_cases h0:n=0
 ·subst h0;rw [Nat.pow_zero,eQ];simp (disch:=try exact ac)[iw];exact ax rfl rfl
 have g1:¬ (n:Int)=0:=aa;have g2:¬ (n:Int)<0:=aa;have g3:¬ (n:Int) > 66439:=aa;have n1:¬ ([50]:List UInt8)=[49]:=ae;have n2:¬ ([50]:List UInt8)=[48]:=ae;have ct:=rU (h:=[(0,.none),(0,.none),(0,.none)]) rfl (n:=2) (cap:=1) aE aE;rw [vJ] at ct;obtain ⟨p1,p2⟩:=Bf hn
 have hli:∀ h:Hp,dF 1 [D.int .u64 0] [(0,V.d (D.int .u64 1))] h=some ([u6 1],h):=fun h=>by simp [dF,gC,jy,toD,u6]
 simp (disch:=try exact ac)[iw,g1,g2,n1,n2];refine cd SO ?_;simp (disch:=try exact ac)[g3,hli];refine mA (iP (e:=0) (b:=.none) ct rfl ?_);rw [List.length_map,cI];simp (disch:=try exact ac)[]
 have nv:NV [(1,.data 1 ((bh 1 2).map u6) true false),(0,.none),(0,.none)]:=by
  intro j x hj b';rcases Wq.2 ⟨j,hj⟩ with hm;simp only [Zt,Zf,or_false] at hm;rcases hm with rfl | rfl | rfl <;> rfl
 refine lo (QM _ n 1 2 (lst u6 [1]) _ [(1,.data 1 ((bh 1 2).map u6) true false),(0,.none),(0,.none)] (2 ^ n) (by rw [Xs]) ae ae p1 aa rfl nv ?_ ?_ (fun o' h' h2 hl hr hv=>?_) _ rfl)
 ·intro h' _ _;rw [show dig Z 1=[1] by decide +kernel];exact ⟨NP h' [1],h',sE ..⟩
 ·exact RdN.new (s:=1) (t:=0) ae rfl ae
 ·have hl1:¬ (ndg (2 ^ n):Int) > 20000:=aa;have lt:=kE (2 ^ n);have tx:=vq (n:=2 ^ n) (Zc (ib p1) ae);generalize 2 ^ n=m at *;simp (disch:=try exact ac)[];refine cdz (by simp only [ai,hr];rfl) tx ?_;rw [show gW (S (ah m))=true from rfl,if_pos rfl];simp (disch:=try exact ac)[lt,hl1];exact ax rfl rfl
theorem yZ {n:Nat} (hn:n<=4000):CP Y F.iY [S [50],I n] (.tup [S (ah (2 ^ n)),I 0]):=by
 refine D2 ?_;have sp:=qd 2;rw [vJ] at sp;have g2:¬ (n:Int)<0:=aa;have g3:¬ (n:Int) > 4000:=aa;obtain ⟨p1,p2⟩:=Bf hn;have q:((4000:Int).tdiv 1)=4000:=ae;simp (disch:=try exact ac)[iY,g2];refine cd sp ?_;simp (disch:=try exact ac)[g3,q];refine cd (O5 hn) ?_;simp (disch:=try exact ac)[]
 refine cd (RA _) ?_;exact ax rfl rfl
def dgF (unit two:Nat):Nat->Nat->Nat->Nat->Option Nat
 | 0,_,_,out=>some out
 | r+1,low,high,out=>
  cond (Nat.ble two (low*low / unit)) (dgF unit two r (low*low / unit / 2) ((high*high / unit+1) / 2+1) (out+out+1))
   (cond (Nat.ble two (high*high / unit+1)) none (dgF unit two r (low*low / unit) (high*high / unit+1) (out+out)))
def zD (p n more:Nat):Option Nat:=dgF (2 ^ more) (2 ^ more+2 ^ more) n (p*2 ^ (more-(bA p-1))) (p*2 ^ (more-(bA p-1))) (bA p-1)
def dgV:Option Nat->V
 | some v=>.tup [S (ah v),B true]
 | none=>.tup [S [],B false]
theorem sk {a b:Nat} (ha:ndg a<999999) (hb:ndg b<999999):CP Y F.cD [S (ah a),S (ah b)] (S (ah (a+b))):=by
 have:=sj (z:=(a:Int)) (w:=(b:Int)) (by simpa using ha) (by simpa using hb)
 rwa [c8,c8,<- Int.natCast_add,c8] at this
theorem uz {a b:Nat} (ha:ndg a<400000) (hb:ndg b<400000):CP Y F.aI [S (ah a),S (ah b)] (S (ah (a*b))):=by
 have:=qp (z:=(a:Int)) (w:=(b:Int)) (by simpa using ha) (by simpa using hb)
 rwa [c8,c8,<- Int.natCast_mul,c8] at this
theorem sf {a b:Nat} (h0:0<b) (ha:ndg a<900000) (hb:ndg b<900000):CP Y F.aR [S (ah a),S (ah b)] (.tup [S (ah (a / b)),S (ah (a % b)),I 0]):=by
 have:=s9 (z:=(a:Int)) h0 (by simpa using ha) hb
 rwa [c8,<- Int.natCast_ediv,<- Int.natCast_emod,c8,c8] at this
theorem rq {a b:Nat}:ndg (a*b)<=ndg a+ndg b:=by
 have h3:a*b<10 ^ (ndg a+ndg b):=by rw [Yy];exact Ym (cT a) (cT b)
 exact bf h3 (by have:=jB a;omega)
theorem Su {a b:Nat}:decide (0<=Big.cmp a b)=Nat.ble b a:=by
 rw [Y0,Nat.ble_eq,decide_eq_true_eq];rcases Nat.lt_trichotomy a b with h | h | h
 ·rw [Dw h];omega
 ·subst h;rw [cmp_eq];omega
 ·rw [Dx h];omega
theorem Jp {n k:Nat} (h:ndg n<=k):ndg (n+n+1)<=k+1:=by
 have h1:n<10 ^ k:=Z0 (cT n) (Z2 ae h);exact bf (by rw [Nat.pow_succ];omega) aa
theorem Ak {unit two N W:Nat} (hu:2<=unit) (htwo:two=unit+unit) (hW:ndg two<=W) (hW2:W<100000) (hN:N<100000) (k:KL):∀ (r i low high out:Nat),i+r=N->low<=high->high<two->ndg out<=W+i ->
  (∀ v,dgF unit two r low high out=some v->ndg v<=W+N->k (.exit 0) [S (ah v)] [])->(dgF unit two r low high out=none->k .ret [S [],B false] []) ->
  lp (nK (CX Y) (S (ah unit)) (S (ah two)) (I N)) [] [] [S (ah low),S (ah high),S (ah out),I i] [] k
 | 0,i,low,high,out,hi,hlh,hht,ho,h0,h1=>by
  have hiN:¬ (i:Int)<(N:Int):=aa;refine am ?_;simp (disch:=try exact ac)[nK,hiN];exact h0 out rfl aa
 | r+1,i,low,high,out,hi,hlh,hht,ho,h0,h1=>by
  have hiN:(i:Int)<(N:Int):=aa;have ih:=Ak hu htwo hW hW2 hN k r (i+1);have u1:ndg unit<=W:=Z1 (dN aa) hW;have u2:ndg low<=W:=Z1 (dN aa) hW;have u3:ndg high<=W:=Z1 (dN aa) hW;have m1:=uz (a:=low) (b:=low) aa aa;have m2:=uz (a:=high) (b:=high) aa aa
  have w1:ndg (low*low)<=W+W:=Z1 rq aa;have w2:ndg (high*high)<=W+W:=Z1 rq aa;have d1:=sf (a:=low*low) (b:=unit) aa aa aa;have d2:=sf (a:=high*high) (b:=unit) aa aa aa;have lowle:low*low / unit<=high*high / unit:=Nat.div_le_div_right (Zq hlh hlh)
  have hi4:high*high / unit+4<=4*unit:=by
   have e1:high*high<=(2*unit-1)*(2*unit-1):=Zq aa aa
   have e2:(2*unit-1)*(2*unit-1)+4*unit=4*unit*unit+1:=by
    obtain ⟨x,hx⟩:∃ x,unit=x+1:=⟨unit-1,aa⟩;subst hx;rw [show 2*(x+1)-1=2*x+1 by omega];simp only [Nat.add_mul,Zp,Yb,Xs,Nat.mul_assoc,Yz x 2];omega
   have e3:high*high<(4*unit-3)*unit:=by
    rw [Nat.sub_mul];have:4*unit*unit≥3*unit:=Z3 _ aa;omega
   have:=(Xd aa).2 e3;omega
  have eqF:dgF unit two (r+1) low high out=cond (Nat.ble two (low*low / unit)) (dgF unit two r (low*low / unit / 2) ((high*high / unit+1) / 2+1) (out+out+1))
   (cond (Nat.ble two (high*high / unit+1)) none (dgF unit two r (low*low / unit) (high*high / unit+1) (out+out))):=rfl
  rw [eqF] at h0 h1;generalize low*low / unit=L1 at *;generalize high*high / unit=H0 at *;have t2:ndg (two+two)<=W+1:=rz hW hW;have v1:ndg L1<=W+1:=Z1 (dN aa) t2;have v2:ndg H0<=W+1:=Z1 (dN aa) t2;have v3:ndg (H0+1)<=W+1:=Z1 (dN aa) t2;have a1:=sk (a:=H0) (b:=1) aa (by rw [xH];omega)
  rw [eQ] at a1;have a2:=sk (a:=out) (b:=out) aa aa;have vo:ndg (out+out)<=W+i+1:=rz ho ho;have a3:=sk (a:=out+out) (b:=1) aa (by rw [xH];omega);rw [eQ] at a3;have c1:=H4 (a:=L1) (b:=two) aa aa;have c2:=H4 (a:=H0+1) (b:=two) aa aa;have g1:=Su (a:=L1) (b:=two)
  have g2:=Su (a:=H0+1) (b:=two);have d3:=sf (a:=L1) (b:=2) aa aa (by rw [show ndg 2=1 by decide +kernel];omega);have d4:=sf (a:=H0+1) (b:=2) aa aa (by rw [show ndg 2=1 by decide +kernel];omega);rw [vJ] at d3 d4;have v4:ndg ((H0+1) / 2)<=W+1:=Z1 (dN aa) t2
  have a4:=sk (a:=(H0+1) / 2) (b:=1) aa (by rw [xH];omega);rw [eQ] at a4;generalize Big.cmp L1 two=C1 at *;generalize Big.cmp (H0+1) two=C2 at *;refine am ?_;simp (disch:=try exact ac)[nK,hiN];refine aZ ?_;simp (disch:=try exact ac)[];refine cd m1 ?_;simp (disch:=try exact ac)[];refine cd d1 ?_
  simp (disch:=try exact ac)[];refine cd m2 ?_;simp (disch:=try exact ac)[];refine cd d2 ?_;simp (disch:=try exact ac)[];refine cd a1 ?_;simp (disch:=try exact ac)[];refine cd a2 ?_;simp (disch:=try exact ac)[];refine aZ ?_;simp (disch:=try exact ac)[];refine cd c1 ?_
  simp (disch:=try exact ac)[];refine aZ ?_;cases q1:Nat.ble two L1 with
  | true=>
   rw [q1] at g1 h0 h1;simp only [cond_true] at h0 h1;have g1':0<=C1:=by simpa using g1
   have b1:two<=L1:=Nat.le_of_ble_eq_true q1;simp (disch:=try exact ac)[g1'];refine cd a3 ?_;simp (disch:=try exact ac)[];refine cd d3 ?_;simp (disch:=try exact ac)[];refine cd d4 ?_;simp (disch:=try exact ac)[];refine cd a4 ?_;simp (disch:=try exact ac)[]
   have:=ih (L1 / 2) ((H0+1) / 2+1) (out+out+1) aa aa aa (Jp ho) h0 h1;simpa using this
  | false=>
   rw [q1] at g1 h0 h1;simp only [cond_false] at h0 h1;have g1':¬ 0<=C1:=by simpa using g1
   simp (disch:=try exact ac)[g1'];refine cd c2 ?_;simp (disch:=try exact ac)[];cases q2:Nat.ble two (H0+1) with
   | true=>
    rw [q2] at g2 h1;have g2':0<=C2:=by simpa using g2
    simp (disch:=try exact ac)[g2'];exact h1 rfl
   | false=>
    rw [q2] at g2 h0 h1;simp only [cond_false] at h0 h1;have g2':¬ 0<=C2:=by simpa using g2
    have b2:¬ two<=H0+1:=fun h=>by rw [Nat.ble_eq_true_of_le h] at q2;cases q2
    simp (disch:=try exact ac)[g2'];have:=ih L1 (H0+1) (out+out) aa aa aa aa h0 h1;simpa using this
theorem OC (v:Nat) (h:Hp):out (dgV (some v)) (.tup [S (ah v),B true]) h:=ax rfl rfl
theorem OD (h:Hp):out (dgV none) (.tup [S [],B false]) h:=ax rfl rfl
theorem LS {p n more:Nat} (hp:2<=p) (hp2:p<1000000) (hm1:30<=more) (hm:more<=4000) (hn:n<=4000):CP Y F.size_digits [I p,I n,I more] (dgV (zD p n more)):=by
 refine Ee ?_;obtain ⟨hk0,hpk,hk1⟩:=nO (n:=p) aa
 have hk2:bA p<=20:=by
  rcases Zj 20 (bA p) with h | h
  ·have:2 ^ 20<=2 ^ (bA p-1):=Z2 ae aa;omega
  ·exact h
 obtain ⟨kk,hkk⟩:∃ kk,kk=bA p-1:=⟨_,rfl⟩;obtain ⟨mk,hmk⟩:∃ mk,mk=more-kk:=⟨_,rfl⟩;have e1:((bA p:Nat):Int)-1=(kk:Int):=aa;have e2:(more:Int)-(kk:Int)=(mk:Int):=aa;have hcv:IntKind.wrap .u64 (p:Int)=(p:Int):=KG aa aa;have lb:=M4 (n:=p) aa;have pw:=yZ hm;have pw2:=yZ (n:=mk) aa;have b1:=(Bf hm).2
 have b2:=(Bf (n:=mk) aa).2;have ad:=sk (a:=2 ^ more) (b:=2 ^ more) aa aa;have op:=Lk (n:=p) aa;have ok:=Lk (n:=kk) aa;have np:ndg p<=6:=bf aa ae;have nk:ndg kk<=2:=bf aa ae;have ml:=uz (a:=p) (b:=2 ^ mk) aa aa;have b3:ndg (2 ^ more+2 ^ more)<=2000+1:=rz b1 b1
 have hlt:p*2 ^ mk<2 ^ more+2 ^ more:=by
  have h1:p*2 ^ mk<2 ^ bA p*2 ^ mk:=(Nat.mul_lt_mul_right (Yk ae)).2 hpk;rw [<- Yy,show bA p+mk=more+1 by omega,Nat.pow_succ] at h1;omega
 have hu:2<=2 ^ more:=by
  have:2 ^ 1<=2 ^ more:=Z2 ae aa;omega
 have eF:zD p n more=dgF (2 ^ more) (2 ^ more+2 ^ more) n (p*2 ^ mk) (p*2 ^ mk) kk:=by
  unfold zD;rw [<- hkk,<- hmk]
 rw [eF];generalize 2 ^ more=unit at *;generalize 2 ^ mk=pm at *;generalize p*pm=low at *;simp (disch:=try exact ac)[size_digits,hcv];refine cd lb ?_;simp (disch:=try exact ac)[e1];refine cd pw ?_;simp (disch:=try exact ac)[];refine cd ad ?_;simp (disch:=try exact ac)[e2];refine cd pw2 ?_
 simp (disch:=try exact ac)[];refine cd op ?_;simp (disch:=try exact ac)[];refine cd ml ?_;simp (disch:=try exact ac)[];refine cd ok ?_;simp (disch:=try exact ac)[];refine lo (Ak hu rfl (W:=2001) b3 aa (N:=n) aa _ n 0 low low kk aa (Z7 _) hlt aa (fun v hv _=>?_) (fun hv=>?_))
 ·rw [hv];simp (disch:=try exact ac)[];exact OC v _
 ·rw [hv];simp (disch:=try exact ac)[];exact OD _
def GZ (p n:Nat):Option Nat:=if p=2 then some (2 ^ n) else zD p n (n+64)
theorem WM {p n v:Nat} (hp:2<=p) (hp2:p<1000000) (hn:n<=3900) (hv:GZ p n=some v):CP Y F.qC [I p,I n] (S (ah v)):=by
 refine KX ?_;unfold GZ at hv;by_cases h2:p=2
 ·rw [if_pos h2] at hv;simp only [Z9] at hv;have e:((p:Int)=2):=aa;have pw:=yZ (n:=n) aa;rw [hv] at pw;simp (disch:=try exact ac)[qC,e];refine cd pw ?_;simp (disch:=try exact ac)[];exact d8 rfl
 ·rw [if_neg h2] at hv;have e:¬ ((p:Int)=2):=aa;have dg:=LS (p:=p) (n:=n) (more:=n+64) hp hp2 aa aa aa;rw [hv] at dg;obtain ⟨m,hm⟩:∃ m,m=n+64:=⟨_,rfl⟩;rw [<- hm] at dg;have e3:(n:Int)+64=(m:Int):=aa;simp (disch:=try exact ac)[qC,e,e3];refine lo (am ?_);simp (disch:=try exact ac)[zU];refine cd dg ?_
  simp (disch:=try exact ac)[dgV];exact d8 rfl
end Go.Vm
