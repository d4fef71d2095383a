/- Signed integers as texts: small ones read, signs, negatives. -/
import Derived.Test.YtaiahkcmdnaooaaGreatDoorQCkBits
import Derived.Test.YtaiahkcmdnaooaaGreatDoorQCkShift
import Derived.Test.YtaiahkcmdnaooaaGreatDoorQT
import Derived.Test.YtaiahkcmdnaooaaGreatDoorQTSmB
set_option linter.unusedVariables false
set_option linter.unusedSimpArgs false
namespace Go.Vm
open Go Go.Am Go.Big
theorem Nm {n w:Nat} (h1:1<=w) (h2:w<=17) (hn:n<10 ^ w):CP Y F.eM [S (45::cn n w)] (.tup [I (-(n:Int)),.d (.pl .nilIface)]):=by
 refine oF ?_;have hl:=ze w n;have hlt:=xq w n;have hh:=yL w n hn;have he:=ML n w;have hD:=Cy w n;have hn17:n<10 ^ 17:=Z2 hn (Z5 (by decide) h2);simp only [Nat.reducePow] at hn17;generalize cn n w=L at *;generalize vH n w=l at *;have hlen:L.length=w:=by rw [hD];simpa using hl
 have hi:ixS (S (45::L)) (.d (.int .i64 0))=some (.d (.int .u8 45)):=by simp [ixS]
 have hlw:j6 (S (45::L))=some (I (w+1:Nat)):=by rw [Cl];simp [hlen]
 have hsl:slS (S (45::L)) (some (.d (.int .i64 1))) none=some (S L):=by
  have:(1:Int)<=(L.length:Int)+1:=by omega
  simp [slS,boV,this]
 have hl2:j6 (S L)=some (I w):=by rw [Cl,hlen]
 simp (disch:=first|omega|simp<;>omega|fail)[eM,hlw,hi]
 have hcv:∀ (k:V->Hp->Prop),cvB (S L) [] k=k (lst f8 l) []:=by
  intro k
  have:V.d (.sl L.length (L.map fun b=>.int .u8 b.toNat))=lst f8 l:=by
   unfold lst;rw [hlen,hl,<- he];rfl
  simp only [cvB,this]
 refine eU (l:=[S L]) (h:=[]) (fun q=>?_) ?_
 ·simp (disch:=first|omega|simp<;>omega|fail)[hsl,hl2]
 show cvB (S L) [] _
 rw [hcv];simp (disch:=first|omega|simp<;>omega|fail)[];refine lo (CR _ _ rfl l [] 0 (by simp;omega) hlt (by simp) ?_);simp (disch:=first|omega|simp<;>omega|fail)[hi,hh];refine eU (l:=[I (-(n:Int))]) (h:=[]) (fun q=>?_) ?_
 ·simp (disch:=first|omega|simp<;>omega|fail)[hh]
 exact ⟨[],by simp [aA,ae,norm]⟩
theorem Nl {n w:Nat} (h1:1<=w) (h2:w<=17) (hn:n<10 ^ w):CP Y F.eE [S (45::cn n w)] (.tup [I (-(n:Int)),.d (.pl .nilIface)]):=by
 refine qw ?_;simp (disch:=first|omega|simp<;>omega|fail)[eE];refine cd (Nm h1 h2 hn) ?_;simp (disch:=first|omega|simp<;>omega|fail)[Ca];exact ⟨[],by simp [aA,ae,norm]⟩
def sdg (z:Int):Nat:=ndg z.natAbs+if z<0 then 1 else 0
theorem EP (z:Int):j6 (S (itoa z))=some (I (sdg z)):=by
 rw [Cl];unfold itoa sdg;split
 ·simp [aa,aK]
 ·simp [aa,aK]
theorem FO {z:Int} (h:sdg z<=18):CP Y F.eE [S (itoa z)] (.tup [I z,.d (.pl .nilIface)]):=by
 unfold sdg at h;by_cases hz:z<0
 ·rw [if_pos hz] at h;have:=Nl (n:=z.natAbs) (w:=ndg z.natAbs) (iE _) (by omega) (bP _);rw [show (-(z.natAbs:Int))=z by omega] at this;unfold itoa;rw [if_pos hz];exact this
 ·rw [if_neg hz] at h;have:=CQ (n:=z.natAbs) (w:=ndg z.natAbs) (iE _) (by omega) (bP _);rw [show ((z.natAbs:Nat):Int)=z by omega] at this;unfold itoa;rw [if_neg hz];exact this
theorem nf (z:Int) (w:Nat) (hw:w<=18):CP Y F.aW [S (itoa z),I w] (if sdg z<=w then .tup [I z,B true] else .tup [I 0,B false]):=by
 refine mR ?_;have la:=EP z;by_cases h:(w:Int)<sdg z
 ·rw [if_neg (by omega)];simp (disch:=first|omega|simp<;>omega|fail)[aW,la,h];exact ai rfl rfl
 ·rw [if_pos (by omega)];have ap:=FO (z:=z) (by omega);have en:biF .eql (.d (.pl .nilIface)) (.d (.pl .nilIface))=some (.d (.bool true)):=rfl;simp (disch:=first|omega|simp<;>omega|fail)[aW,la,h];refine cd (args:=[S (itoa z)]) ap ?_;simp (disch:=first|omega|simp<;>omega|fail)[en];exact ai rfl rfl
theorem yA (z:Int):CP Y F.dY [S (itoa z)] (if sdg z<=9 then .tup [I z,B true] else .tup [I 0,B false]):=by
 refine uh ?_;have la:=EP z;by_cases h:(9:Int)<sdg z
 ·rw [if_neg (by omega)];simp (disch:=first|omega|simp<;>omega|fail)[dY,la,h];exact ai rfl rfl
 ·rw [if_pos (by omega)];have ap:=FO (z:=z) (by omega);have en:biF .eql (.d (.pl .nilIface)) (.d (.pl .nilIface))=some (.d (.bool true)):=rfl;simp (disch:=first|omega|simp<;>omega|fail)[dY,la,h];refine cd (args:=[S (itoa z)]) ap ?_;simp (disch:=first|omega|simp<;>omega|fail)[en];exact ai rfl rfl
theorem uc (z:Int):rdN (itoa z)=decide (z<0):=by
 unfold itoa;split
 ·rename_i h;simp [rdN,h]
 ·rename_i h;have:=ni z.natAbs;unfold rdN;rw [decide_eq_false this,decide_eq_false h]
theorem mM (z:Int):CP Y F.aF [S (itoa z)] (.tup [B (decide (z<0)),S (aa z.natAbs)]):=by
 have h:=qx (itoa z);rw [uc,oE] at h;exact h
theorem lI {a b:Nat} (h:aa a=aa b):a=b:=by
 have:=congrArg (dG 0) h
 rwa [cF,cF] at this
theorem ud {a b:Int} (h:itoa a=itoa b):a=b:=by
 have h1:=congrArg rdT h;have h2:=congrArg rdN h;rw [oE,oE] at h1;rw [uc,uc] at h2;have h3:=lI h1;have h4:(a<0)↔(b<0):=by simpa using h2
 omega
theorem iZ {n:Nat}:aa n=[48]↔n=0:=by
 constructor
 ·intro h;exact lI (a:=n) (b:=0) (h.trans dt.symm)
 ·rintro rfl;exact dt
def sg (b:Bool) (n:Nat):Int:=if b then -(n:Int) else n
theorem jF (b:Bool) {n:Nat} (hn9:ndg n<1000000):CP Y F.bA [B b,S (aa n)] (S (itoa (sg b n))):=by
 refine tw ?_;cases b with
 | false=>
  have:itoa (sg false n)=aa n:=by simp [sg,itoa]
  rw [this];simp (disch:=first|omega|simp<;>omega|fail)[bA] <;> exact cT rfl
 | true=>
  by_cases hn:n=0
  ·subst hn;have e0:itoa (sg true 0)=[48]:=dt;simp (disch:=first|omega|simp<;>omega|fail)[bA,dt] <;> exact cT e0.symm
  ·have h0:¬ aa n=[48]:=fun h=>hn (iZ.1 h)
   have:itoa (sg true n)=45::aa n:=by
    unfold itoa sg;rw [if_pos rfl,if_pos (by omega)];simp
   rw [this];have hl:(aa n).length=ndg n:=aK _ _;have ha:biS .add (.d (.str [45])) (S (aa n))=some (S (45::aa n)):=O8 [45] (aa n) (by rw [hl];simp;omega);simp (disch:=first|omega|simp<;>omega|fail)[bA,h0,ha] <;> exact cT rfl
theorem rI {z:Int} (hz:ndg z.natAbs<1000000):CP Y F.gG [S (itoa z)] (S (itoa (-z))):=by
 refine C8 ?_;simp (disch:=first|omega|simp<;>omega|fail)[gG];refine cd (mM z) ?_;simp (disch:=first|omega|simp<;>omega|fail)[];have:=jF (!decide (z<0)) hz
 have e:sg (!decide (z<0)) z.natAbs = -z:=by
  unfold sg;by_cases h:z<0
  ·simp [h];omega
  ·simp [h];omega
 rw [e] at this;refine cd this ?_;exact cT rfl
def bn (n:Nat):Nat:=(dig Z n).length
theorem xr {n:Nat}:bn n=ndg n / 9+1∨bn n+1=ndg n / 9+1:=by
 unfold bn;have h1:(dig Z n).length<=ndg n / 9+1:=(kT ag).2 (Z2 (bP n) (by rw [uO];exact Z5 (by decide) (by omega)))
 have h2:ndg n<=9*(dig Z n).length∨n=0:=by
  rcases Zg n with h | h
  ·exact .inr h
  ·left;have h3:n<Z ^ (dig Z n).length:=(kT ag).1 (Z7 _);rw [uO] at h3;refine a6 h3 ?_;rcases Zg (dig Z n).length with h4 | h4
   ·rw [h4] at h3;simp at h3;omega
   ·omega
 rcases h2 with h2 | rfl
 ·omega
 ·have:ndg 0=1:=by decide +kernel
  rw [this];right;rfl
theorem Ch (n:Nat):n<Z ^ bn n:=(kT ag).1 (Z7 _)
theorem uk (n:Nat):aO (bn n) n=dig Z n:=by
 have:=jV (Ch n)
 rwa [Zu (by rw [bJ];exact Z7 _)] at this
theorem uj {n c:Nat} (h:bn n+1=c):aO c n=dig Z n++[0]:=by
 rw [<- h,vu (Ch n),uk]
theorem IQ {s t n c:Nat} {h:Hp} {q:V->Hp->Prop} {u:PU q} (hst:s≠t) (hg:h[s]? = some (1,.data 1 ((aO c n).map u6) true false)) (ht:h[t]? = some (0,.none)) (hL:bn n=c∨bn n+1=c) (hc:c<1000000)
  (hq:∀ s' e' ex h',h'.length=h.length->h'[s']? = some (e',.data 1 ((dig Z n++[0]).map u6) ex false)->(s'=s∨s'=t)->(∀ j,j≠s'->h'[j]? = h[j]?)->q (.ref s' e' 0 (bn n+1) (bn n+1) (bn n+1)) h') :
  rh (apV false t 1 8 (.ref s 1 0 (bn n) c c) (.d (.sl 1 [u6 0])) h) q u:=by
 have hl:=aD hg;have hl2:=aD ht;rcases hL with hL | hL
 ·subst hL;rw [uk] at hg;refine IP hg ht rfl (by omega) ?_;exact hq t 1 false _ (by simp) (by simp [hl2]) (.inr rfl) (fun j hj=>by rw [List.getElem?_set_ne (Ne.symm hj)])
 ·rw [uj hL] at hg;have hlen:(dig Z n).length=bn n:=rfl;refine He (x:=0) hg (by simp;omega) (by omega) ?_;rw [<- hL];refine hq s 1 true _ (by simp) ?_ (.inl rfl) (fun j hj=>by rw [List.getElem?_set_ne (Ne.symm hj)])
  have e1:(dig Z n++[0]).take (bn n)++[0]++(dig Z n++[0]).drop (bn n+1)=dig Z n++[0]:=by
   rw [<- hlen,We,Y9 (by simp),Yj]
  rw [e1];simp [hl]
theorem IM {s t n c k:Nat} {h:Hp} {q:V->Hp->Prop} {u:PU q} (hst:s≠t) (hg:h[s]? = some (1,.data 1 ((aO c n).map u6) true false)) (ht:h[t]? = some (0,.none)) (hL:bn n=c∨bn n+1=c) (hc:c+k<1000000)
  (hq:∀ t1 s' h',h'.length=h.length->(s'=s∨s'=t)->(∀ j,j≠s'->h'[j]? = h[j]?)->(∃ (e':Nat) (l:List Nat) (ex:Bool),h'[s']? = some (e',.data 1 (l.map u6) ex false)) ->
   (∀ P:Hp->Prop,(∀ g,P g->g[s']? = h'[s']?)->RdS P t1 (dig Z n++List.replicate k 0))->q t1 h') :
  rh (apZ false t 1 8 [.int .u64 0] (.ref s 1 0 (bn n) c c) (I (k:Nat)) h) q u:=by
 have hl:=aD hg;have hl2:=aD ht;have hlen:(dig Z n).length=bn n:=rfl;unfold rh apZ;simp only;rw [if_pos ⟨by omega,by omega⟩];unfold apC;simp only [Int.toNat_natCast]
 have rdOf:∀ {s' e' len cap tot:Nat} {l:List Nat} {ex:Bool} {h':Hp},h'[s']? = some (e',.data 1 (l.map u6) ex false)->tot=l.length->len<=tot->l.take len=dig Z n++List.replicate k 0 ->
   ∀ P:Hp->Prop,(∀ g,P g->g[s']? = h'[s']?)->RdS P (.ref s' e' 0 len cap tot) (dig Z n++List.replicate k 0):=by
  intro s' e' len cap tot l ex h' hg' htot hle htk P hP;refine ⟨?_,fun g i hg2 hi=>?_⟩
  ·have:(dig Z n++List.replicate k 0).length=len:=by rw [<- htk,Zr];omega
   rw [this];rfl
  ·have:=(xx (h:=g) (cap:=cap) ((hP g hg2).trans hg') htot hle).2 [] i (by rw [htk];exact hi);rw [Yj,htk] at this;exact this
 by_cases hk:k=0
 ·rw [if_pos hk,if_pos (by omega)];subst hk;refine hq _ s h rfl (.inl rfl) (fun _ _=>rfl) ⟨_,_,_,hg⟩ ?_;refine rdOf hg (bJ ..).symm (by omega) ?_;rw [List.replicate_zero,Yj];rcases hL with hL | hL
  ·rw [<- hL,uk,<- hlen,Xy]
  ·rw [uj hL,<- hlen,We]
 ·rw [if_neg hk,NS];simp only [dO hg];rw [if_pos ⟨trivial,by simp [bJ],by omega,by simp [bJ],by simp⟩];by_cases hin:bn n+k<=c
  ·rw [if_pos hin];have hk1:k=1:=by omega
   subst hk1;have hL2:bn n+1=c:=by omega
   simp only [Bool.or_self,Zn,if_false,cU]
   have e1:((aO c n).map u6).take (0+bn n*1)++(List.replicate 1 0).map u6++((aO c n).map u6).drop (0+(bn n+1)*1)=(dig Z n++[0]).map u6:=by
    rw [uj hL2,Zk,Zk,Yl,Yl,<- hlen];simp [<- List.map_take,<- List.map_drop]
   rw [e1];refine hq _ s _ (by simp) (.inl rfl) (fun j hj=>by rw [List.getElem?_set_ne (Ne.symm hj)]) ⟨1,dig Z n++[0],true,by simp [hl]⟩ ?_;refine rdOf (l:=dig Z n++[0]) (ex:=true) (by simp [hl]) (by simp;omega) (by omega) ?_;rw [Zu (by simp;omega)];rfl
  ·rw [if_neg hin,if_pos (by omega)];simp only [if_true,new,ht]
   have e1:(((aO c n).map u6).drop 0).take (bn n*1)++(List.replicate k 0).map u6=(dig Z n++List.replicate k 0).map u6:=by
    rw [Y3,Yl,<- List.map_take,W5];congr 2;rcases hL with hL | hL
    ·rw [<- hL,uk,<- hlen,Xy]
    ·rw [uj hL,<- hlen,We]
   rw [e1];have e2:bn n*1+((List.replicate k 0).map u6).length=bn n+k:=by simp
   rw [e2];refine hq _ t _ (by simp) (.inr rfl) (fun j hj=>by rw [List.getElem?_set_ne (Ne.symm hj)]) ⟨1,dig Z n++List.replicate k 0,false,by simp [hl2]⟩ ?_;refine rdOf (l:=dig Z n++List.replicate k 0) (ex:=false) (by simp [hl2]) (by simp;omega) (by omega) ?_;rw [Zu (by simp;omega)]
def NV (h:Hp):Prop:=∀ (j:Nat) (x:Nat × Bk),h[j]? = some x->∀ b,dF b x.2=true
theorem NV.all {h:Hp} (hn:NV h) (b:Nat):(h.all fun x=>dF b x.2)=true:=by
 rw [Zz];intro x hx;obtain ⟨j,hj⟩:=Wx.1 hx;exact hn j x hj b
theorem NV.upd {h h':Hp} (hn:NV h) {s e:Nat} {l:List Nat} {ex fr:Bool} (hs:h'[s]? = some (e,.data 1 (l.map u6) ex fr)) (ho:∀ j,j≠s->h'[j]? = h[j]?):NV h':=by
 intro j x hj b;by_cases e1:j=s
 ·subst e1;rw [hs] at hj;cases hj;rfl
 ·rw [ho j e1] at hj;exact hn j x hj b
theorem KS {α:Type} {l:List α} {i:Nat} {x:α} (h:l[i]? = some x):l.set i x=l:=by
 apply Xr;intro j;by_cases e:i=j
 ·subst e;rw [List.getElem?_set_self (aD h),h]
 ·rw [List.getElem?_set_ne e]
theorem HB {h:Hp} {s e:Nat} {ex:Bool} {l:List Nat} (hs:h[s]? = some (e,.data 1 (l.map u6) ex false)):sP h s e ex l=h:=KS hs
theorem AA {h:Hp} {s e n m:Nat} {ex:Bool} {L:List Nat} {w:V} (hn:NV h) (hlt:s<h.length) (h3:L.length=n) (b1:val Z L=m) (b2:au Z L) (hm:n<1000000) (kk:V->V) (hkk:∀ h':Hp,out w (kk (S (aa m))) h') {sl:Nat} :
  cai (CX Y).i (sP h s e ex L) (V.fn F.ah [] []) [.ref s e 0 n n n] sl fun v22 h=>
    cal (CX Y).p h (V.fn F.aC [] []) [v22] fun v23 h=>out w (kk v23) h:=by
 have nv:NV (sP h s e ex L):=hn.upd (m6 hlt) (fun j hj=>by unfold sP;rw [List.getElem?_set_ne (Ne.symm hj)]);have tr:=oj (h:=sP h s e ex L) (nv.all _) (s:=s) (e:=e) (ex:=ex) (fr:=false) (m6 hlt) h3.symm (len:=n) (cap:=n) (Z7 _) (by omega) (Z7 _);have ht:eQ (L.take n)=dig Z m:=by rw [Zu (by omega),<- b1,mI ag b2]
 rw [ht] at tr;refine kY tr ?_ (by simp);have lt:m<Z ^ n:=by rw [<- b1,<- h3];exact gF aS b2
 have hl:(dig Z m).length<=n:=(kT ag).2 lt;have sM:=qy (h:=sP h s e ex L) (s:=s) (e:=e) (ex:=ex) (fr:=false) (m6 hlt) h3.symm (len:=(dig Z m).length) (cap:=n) hl (Z7 _)
 have ht2:L.take (dig Z m).length=dig Z m:=by
  have e:eQ L=dig Z m:=by rw [<- ht,Zu (by omega)]
  obtain ⟨z,hz⟩:=Ax L;rw [e] at hz;rw [hz];exact We ..
 rw [ht2] at sM;refine cdz (u:=.mk) (by simp only [ae,sM];rfl) (rq (n:=m) (by omega)) ?_;rw [show fv (S (aa m))=true from rfl,if_pos rfl];exact hkk _
theorem zg {a b:Nat} (ha:ndg a<1000000) (hb:ndg b<1000000):CP Y F.fU [S (aa a),S (aa b)] (S (aa (a+b))):=by
 refine Ah ?_;have bo:=xu a b;by_cases h18:ndg a<=18∧ndg b<=18
 ·rw [if_pos h18] at bo;have g3:10 ^ ndg a<=10 ^ 18:=Z5 (by decide) h18.1;have g4:10 ^ ndg b<=10 ^ 18:=Z5 (by decide) h18.2;have b1:a<1000000000000000000:=Z2 (bP a) g3;have b2:b<1000000000000000000:=Z2 (bP b) g4;simp (disch:=first|omega|simp<;>omega|fail)[fU];refine cd bo ?_;obtain ⟨m,hm⟩:∃ m,a+b=m:=⟨_,rfl⟩
  have em:(a:Int)+(b:Int)=(m:Int):=by omega
  rw [hm];simp (disch:=first|omega|simp<;>omega|fail)[em];refine cd (vh (n:=m) (by omega)) ?_;exact cT rfl
 rw [if_neg h18] at bo;obtain ⟨ca,hca⟩:∃ ca,ca=ndg a / 9+1:=⟨_,rfl⟩;obtain ⟨cb,hcb⟩:∃ cb,cb=ndg b / 9+1:=⟨_,rfl⟩;have cA:=nZ (h:=[(0,.none),(0,.none),(0,.none),(0,.none),(0,.none),(0,.none)]) rfl (n:=a) (by omega) hca;have cB:=nZ (h:=[(1,.data 1 ((aO ca a).map u6) true false),(0,.none),(0,.none),(0,.none),(0,.none),(0,.none)]) rfl (n:=b) (by omega) hcb
 have LA:bn a=ca∨bn a+1=ca:=by rw [hca];exact xr
 have LB:bn b=cb∨bn b+1=cb:=by rw [hcb];exact xr
 have hli:∀ h:Hp,dk 1 [D.int .u64 0] [(0,V.d (D.int .u64 0))] h=some ([u6 0],h):=fun h=>by simp [dk,fY,iz,toD,u6]
 have main:∀ (p q cp cq sp sq:Nat) (h:Hp),p+q=a+b->bn q<=bn p->cp<200000->cq<200000->(bn p=cp∨bn p+1=cp)->(bn q=cq∨bn q+1=cq)->sp<2->sq<2->sp≠sq->h.length=6->NV h ->
   h[sp]? = some (1,.data 1 ((aO cp p).map u6) true false)->h[sq]? = some (1,.data 1 ((aO cq q).map u6) true false)->h[2]? = some (0,.none)->h[3]? = some (0,.none) ->
   apV false 2 1 8 (.ref sp 1 0 (bn p) cp cp) (.d (.sl 1 [u6 0])) h fun v15 h=>
   bnd (am v15) fun v16=>
   bnd (biI .sub v16 (.d (.int .i64 1))) fun v17=>
   bnd (am (.ref sq 1 0 (bn q) cq cq)) fun v18=>
   bnd (biI .sub v17 v18) fun v19=>
   apZ false 3 1 8 [.int .u64 0] (.ref sq 1 0 (bn q) cq cq) v19 h fun v20 h=>
   cai (CX Y).i h (.fn F.bG [] []) [v15,v20,(.d (.int .i64 0))] 4 fun v21 h=>
   cai (CX Y).i h (.fn F.ah [] []) [v15] 5 fun v22 h=>
   cal (CX Y).p h (.fn F.aC [] []) [v22] fun v23 h=>
   out (S (aa (a+b))) v23 h:=by
  intro p q cp cq sp sq h hpq hle hcp hcq LP LQ hsp hsq hne hlen hnv gp gq g2 g3;refine IQ (u:=.mk) (t:=2) (by omega) gp g2 LP (by omega) fun s' e' ex h1 l1 gs' hs' o1=>?_
  obtain ⟨k,hk⟩:∃ k,k=bn p-bn q:=⟨_,rfl⟩;have e1:(bn p:Int)+1-1-(bn q:Int)=(k:Int):=by omega
  have hr1:am (.ref s' e' 0 (bn p+1) (bn p+1) (bn p+1))=some (I (bn p+1:Nat)):=rfl;have hr2:am (.ref sq 1 0 (bn q) cq cq)=some (I (bn q:Nat)):=rfl
  have hb1:biI .sub (I ((bn p+1:Nat):Int)) (.d (.int .i64 1))=some (I (bn p)):=by
   rw [pF,show (((bn p+1:Nat):Int)-1)=(bn p:Int) by omega,oe (by omega) (by omega)]
  have hb2:biI .sub (I (bn p:Int)) (I (bn q:Int))=some (I k):=by
   rw [pF,show ((bn p:Int)-(bn q:Int))=(k:Int) by omega,oe (by omega) (by omega)]
  simp only [hr1,hr2,hb1,hb2,bnd];have nv1:=hnv.upd gs' o1;have hqs:sq≠s':=by rcases hs' with rfl | rfl <;> omega
  have h3s:3≠s':=by rcases hs' with rfl | rfl <;> omega
  refine IM (u:=.mk) (t:=3) (by omega) ((o1 sq hqs).trans gq) ((o1 3 h3s).trans g3) LQ (by omega) fun t1 s2 h2 l2 hs2 o2 ⟨e2,l2',ex2,g2'⟩ rd=>?_
  have nv2:=nv1.upd g2' o2;have hss:s'≠s2:=by rcases hs2 with rfl | rfl <;> omega
  have gs2:h2[s']? = some (e',.data 1 ((dig Z p++[0]).map u6) ex false):=(o2 s' hss).trans gs';have lt2:s'<h2.length:=aD gs2;have hdl:(dig Z q++List.replicate k 0).length=bn p:=by simp only [Zm,Y0];show bn q+k=_;omega
  have sD:au Z (dig Z q++List.replicate k 0):=mO (bB ag q) (ln _);have vD:val Z (dig Z q++List.replicate k 0)=q:=by rw [kE,fq ag]
  have rdS:=rd (fun t=>∃ l,t=sP h2 s' e' ex l) (fun g ⟨l,hg⟩=>by rw [hg];unfold sP;rw [List.getElem?_set_ne hss]);obtain ⟨c1,c2,c3⟩:=Nk (n:=bn p) rfl hdl (bB ag p) sD (fq ag p) vD
  have bk:=FM (at_:=0) (tot:=bn p+1) (l:=dig Z p++[0]) (ex:=ex) (e:=e') (s:=s') (h:=h2) (nv2.all _) lt2 rdS sD (by rw [hdl];omega) (by omega) (by simp [bn]) (mO (bB ag p) (ln 1));rw [HB gs2] at bk;refine kY bk ?_ (by simp);rw [hpq] at c1;exact AA nv2 lt2 c3 c1 c2 (by omega) (fun v=>v) (fun _=>cT rfl)
 simp (disch:=first|omega|simp<;>omega|fail)[fU];refine cd bo ?_;simp (disch:=first|omega|simp<;>omega|fail)[];refine j4 (gE (e:=0) (b:=.none) cA rfl ?_);rw [List.length_map,bJ];simp (disch:=first|omega|simp<;>omega|fail)[];refine j4 (gE (e:=0) (b:=.none) cB rfl ?_);rw [List.length_map,bJ]
 have nv:NV [(1,.data 1 ((aO ca a).map u6) true false),(1,.data 1 ((aO cb b).map u6) true false),(0,.none),(0,.none),(0,.none),(0,.none)]:=by
  intro j x hj b';rcases Wx.2 ⟨j,hj⟩ with hm;simp only [Zt,Zb,or_false] at hm;rcases hm with rfl | rfl | rfl | rfl | rfl | rfl <;> rfl
 by_cases g1:((dig Z a).length:Int)<((dig Z b).length:Int)
 ·simp (disch:=first|omega|simp<;>omega|fail)[g1];refine bC ?_;simp (disch:=first|omega|simp<;>omega|fail)[hli];exact main b a cb ca 1 0 _ (by omega) (by unfold bn;omega) (by omega) (by omega) LB LA (by omega) (by omega) (by omega) rfl nv rfl rfl rfl rfl
 ·simp (disch:=first|omega|simp<;>omega|fail)[g1];refine bC ?_;simp (disch:=first|omega|simp<;>omega|fail)[hli];exact main a b ca cb 0 1 _ rfl (by unfold bn;omega) (by omega) (by omega) LA LB (by omega) (by omega) (by omega) rfl nv rfl rfl rfl rfl
theorem AV:∀ (s t:List UInt8) (c:Nat),s.length=t.length->s.all kZ=true->t.all kZ=true->Op.bytesLess s t=decide (dG c s<dG c t)
 | [],[],c,_,_,_=>by simp [Op.bytesLess]
 | x::s,y::t,c,hl,hs,ht=>by
  simp only [List.length_cons,Nat.add_right_cancel_iff] at hl;simp only [List.all_cons,Z8] at hs ht;have hx:=iR.1 hs.1;have hy:=iR.1 ht.1
  have key:∀ (s t:List UInt8) (u v:Nat),s.length=t.length->s.all kZ=true->u<v->dG u s<dG v t:=by
   intro s t u v hl hs h;have h1:=oH s u hs;have h2:=yM t v;rw [<- hl] at h2;have h3:(u+1)*10 ^ s.length<=v*10 ^ s.length:=Z1 _ h;omega
  rw [hO,hO];have ex:x<y↔x.toNat<y.toNat:=UInt8.lt_iff_toNat_lt;have ey:y<x↔y.toNat<x.toNat:=UInt8.lt_iff_toNat_lt;rcases Nat.lt_trichotomy x.toNat y.toNat with h | h | h
  ·have:=key s t (c*10+(x.toNat-48)) (c*10+(y.toNat-48)) hl hs.2 (by omega);rw [decide_eq_true this];simp [Op.bytesLess,ex.2 h]
  ·have e:x=y:=UInt8.toNat_inj.1 h;subst e;rw [<- AV s t _ hl hs.2 ht.2];simp [Op.bytesLess]
  ·have:=key t s (c*10+(y.toNat-48)) (c*10+(x.toNat-48)) hl.symm ht.2 (by omega);rw [decide_eq_false (by omega)];have h1:¬ x<y:=fun g=>by have:=ex.1 g;omega
   have h2:¬ x=y:=fun g=>by subst g;omega
   simp [Op.bytesLess,h1,h2]
theorem AY (n:Nat):(aa n).all kZ=true:=qW _ _
theorem AU {a b:Nat} (h:ndg a=ndg b):Op.bytesLess (aa a) (aa b)=decide (a<b):=by
 rw [AV (aa a) (aa b) 0 (by rw [aa,aa,aK,aK,h]) (AY _) (AY _),cF,cF]
theorem Lz {a b:Nat} (h:ndg a<ndg b):a<b:=by
 rcases Zo a b with g | g
 ·exact g
 ·have:=cC g;omega
theorem zk {a b:Nat} (h:a<b):Big.cmp a b = -1:=if_pos h
theorem zm {a b:Nat} (h:b<a):Big.cmp a b=1:=(if_neg (by omega)).trans (if_pos h)
theorem cmp_eq {a:Nat}:Big.cmp a a=0:=(if_neg (by omega)).trans (if_neg (by omega))
theorem rP {a b:Nat} (ha:ndg a<1000000) (hb:ndg b<1000000):CP Y F.bw [S (aa a),S (aa b)] (I (Big.cmp a b)):=by
 refine uA ?_;have la:=iY a;have lb:=iY b;by_cases hl:ndg a=ndg b
 ·have h1:=AU hl;have h2:=AU hl.symm;have e1:biS .lss (S (aa a)) (S (aa b))=some (.d (.bool (decide (a<b)))):=by rw [<- h1];rfl
  have e2:biS .gtr (S (aa a)) (S (aa b))=some (.d (.bool (decide (b<a)))):=by
   have h3:(aa a == aa b)=decide (a=b):=by
    rw [Yw];simp only [beq_iff_eq,decide_eq_true_eq];exact ⟨lI,fun h=>by rw [h]⟩
   have h4:decide (b<a) = !(decide (a<b) || decide (a=b)):=by
    rw [Yw];simp only [decide_eq_true_eq,Zc,Bool.or_eq_false_iff,decide_eq_false_iff_not];omega
   rw [h4,<- h1,<- h3];rfl
  rw [hl] at la;by_cases g1:a<b
  ·simp (disch:=first|omega|simp<;>omega|fail)[bw,la,lb,e1,e2,g1];exact bH (zk g1).symm
  ·by_cases g2:b<a
   ·simp (disch:=first|omega|simp<;>omega|fail)[bw,la,lb,e1,e2,g1,g2];exact bH (zm g2).symm
   ·simp (disch:=first|omega|simp<;>omega|fail)[bw,la,lb,e1,e2,g1,g2];have:a=b:=by omega
    subst this;exact bH cmp_eq.symm
 ·have hne:¬ ((ndg a:Int)=(ndg b:Int)):=by omega
  rcases Zo (ndg a) (ndg b) with h | h
  ·have h3:=Lz h;have m1:mxI true [.d (.int .i64 (-1)),I ((ndg a:Int)-ndg b)]=some (I (-1)):=by simp [mxI,mx2];omega
   have m2:mxI false [.d (.int .i64 1),I (-1)]=some (I (-1)):=rfl;simp (disch:=first|omega|simp<;>omega|fail)[bw,la,lb,hne,m1,m2];exact bH (zk h3).symm
  ·have h3:b<a:=Lz (by omega);have m1:mxI true [.d (.int .i64 (-1)),I ((ndg a:Int)-ndg b)]=some (I ((ndg a:Int)-ndg b)):=by simp [mxI,mx2];omega
   have m2:mxI false [.d (.int .i64 1),I ((ndg a:Int)-ndg b)]=some (I 1):=by simp [mxI,mx2];omega
   simp (disch:=first|omega|simp<;>omega|fail)[bw,la,lb,hne,m1,m2];exact bH (zm h3).symm
theorem Ev:1<Z:=ag
theorem Kw {A D:List Nat} {a b n:Nat} (hA:A.length=n) (hD:D.length=n) (sA:au Z A) (sD:au Z D) (va:val Z A=a) (vb:val Z D=b) (hba:b<=a) :
  val Z (fM 1 0 D (D.length+1) 0 0 0 (A++[0])).2=a-b∧au Z (fM 1 0 D (D.length+1) 0 0 0 (A++[0])).2∧(fM 1 0 D (D.length+1) 0 0 0 (A++[0])).2.length=n+1:=by
 have sA0:au Z (A++[0]):=mO sA (ln 1);have l2:=gF aS sD;rw [vb,hD] at l2
 obtain ⟨h1,h2,h3,h4⟩:=xI (g:=1) (at_:=0) Ev sD (D.length+1) 0 0 0 (A++[0]) (by simp;omega) aS (Yx _) sA0 (by
  rw [Y3,vb,hD,Xs,Zk,Nat.pow_succ];exact Z2 l2 (Zf _ aS))
 have e2:val Z (A++[0])=a:=by rw [show ([0]:List Nat)=List.replicate 1 0 from rfl,kE,va]
 have hl:(fM 1 0 D (D.length+1) 0 0 0 (A++[0])).2.length=n+1:=by rw [h1.1];simp [hA]
 refine ⟨?_,h2,hl⟩;have h5:=gF aS h2;rw [hl] at h5;rw [e2,Y3,vb,hD] at h4;rw [hD] at h3 h5 ⊢;generalize val Z (fM 1 0 D (n+1) 0 0 0 (A++[0])).2=x at *;generalize (fM 1 0 D (n+1) 0 0 0 (A++[0])).1=c at *;simp only [Zk,Nat.add_zero,Nat.pow_zero,Xs] at h4;rcases Zg c with h | h
 ·subst h;omega
 ·have:c=1:=by omega
  subst this;rw [Yl] at h4;omega
theorem vG {a b:Nat} (hba:b<=a) (ha:ndg a < 1000000):CP Y F.gU [S (aa a),S (aa b)] (.tup [S (aa (a - b)),I 0]):=by
 have hb:ndg b < 1000000:=Ze (cC hba) ha;refine Ab ?_;have bo:=xu a b;have dc:=rP ha hb
 have hc:¬ Big.cmp a b < 0:=by
  unfold Big.cmp;rw [if_neg (by omega)];split <;> omega
 have hc2:(-1:Int)<=Big.cmp a b∧Big.cmp a b<=1:=by
  unfold Big.cmp;split
  ·omega
  ·split <;> omega
 generalize Big.cmp a b=cc at *;simp (disch:=first|omega|simp<;>omega|fail)[gU];refine cd dc ?_;simp (disch:=first|omega|simp<;>omega|fail)[hc];by_cases h18:ndg a<=18∧ndg b<=18
 ·rw [if_pos h18] at bo;have g3:10 ^ ndg a<=10 ^ 18:=Z5 (by decide) h18.1;have b1:a < 1000000000000000000:=Z2 (bP a) g3;refine cd bo ?_;obtain ⟨m,hm⟩:∃ m,a - b=m:=⟨_,rfl⟩;have em:(a:Int) - (b:Int)=(m:Int):=by omega
  rw [hm];simp (disch:=first|omega|simp<;>omega|fail)[em];refine cd (vh (n:=m) (by omega)) ?_;exact ai rfl rfl
 rw [if_neg h18] at bo;obtain ⟨ca,hca⟩:∃ ca,ca=ndg a / 9+1:=⟨_,rfl⟩;obtain ⟨cb,hcb⟩:∃ cb,cb=ndg b / 9+1:=⟨_,rfl⟩;have cA:=nZ (h:=[(0,.none),(0,.none),(0,.none),(0,.none),(0,.none),(0,.none),(0,.none)]) rfl (n:=a) (by omega) hca;have LA:bn a=ca∨bn a+1=ca:=by rw [hca];exact xr
 have LB:bn b=cb∨bn b+1=cb:=by rw [hcb];exact xr
 have hle:bn b<=bn a:=(kT ag).2 (Ze hba (Ch a));have hli:∀ h:Hp,dk 1 [D.int .u64 0] [(0,V.d (D.int .u64 0))] h=some ([u6 0],h):=fun h=>by simp [dk,fY,iz,toD,u6]
 refine cd bo ?_;simp (disch:=first|omega|simp<;>omega|fail)[];refine j4 (gE (e:=0) (b:=.none) cA rfl ?_);rw [List.length_map,bJ];simp (disch:=first|omega|simp<;>omega|fail)[hli]
 have nv:NV [(1,.data 1 ((aO ca a).map u6) true false),(0,.none),(0,.none),(0,.none),(0,.none),(0,.none),(0,.none)]:=by
  intro j x hj b';rcases Wx.2 ⟨j,hj⟩ with hm;simp only [Zt,Zb,or_false] at hm;rcases hm with rfl | rfl | rfl | rfl | rfl | rfl | rfl <;> rfl
 refine IQ (s:=0) (t:=1) (n:=a) (c:=ca) (by omega) rfl rfl LA (by omega) fun s1 e1 ex1 h1 l1 g1 hs1 o1=>?_
 have nv1:=nv.upd g1 o1;have k1:∀ j,2<=j->h1[j]? = ([(1,.data 1 ((aO ca a).map u6) true false),(0,.none),(0,.none),(0,.none),(0,.none),(0,.none),(0,.none)]:Hp)[j]?:=fun j hj=>o1 j (by omega)
 have hr1:am (.ref s1 e1 0 (bn a+1) (bn a+1) (bn a+1))=some (I (bn a+1:Nat)):=rfl
 have hb1:biI .sub (I ((bn a+1:Nat):Int)) (.d (.int .i64 1))=some (I (bn a)):=by
  rw [pF,show (((bn a+1:Nat):Int) - 1)=(bn a:Int) by omega,oe (by omega) (by omega)]
 -- the second number, twice
 have cB:=nZ (h:=h1) (nv1.all _) (n:=b) (by omega) hcb;refine j4 (u:=.mk) (gE (e:=0) (b:=.none) cB (k1 2 (by omega)) ?_);rw [List.length_map,bJ];have l2:(h1.set 2 (1,.data 1 ((aO cb b).map u6) true false)).length=7:=by simp [l1]
 have n2:(2:Nat) < h1.length:=by rw [l1];simp
 have g2:(h1.set 2 (1,.data 1 ((aO cb b).map u6) true false))[2]? = some (1,.data 1 ((aO cb b).map u6) true false):=by simp [n2]
 have o2:∀ j,j≠2->(h1.set 2 (1,.data 1 ((aO cb b).map u6) true false))[j]? = h1[j]?:=fun j hj=>by rw [List.getElem?_set_ne (Ne.symm hj)]
 have nv2:=nv1.upd g2 o2;generalize h1.set 2 (1,.data 1 ((aO cb b).map u6) true false)=h2 at *
 show bnd (am (.ref s1 e1 0 (bn a+1) (bn a+1) (bn a+1))) _
 simp only [hr1,hb1,bnd];have cB2:=nZ (h:=h2) (nv2.all _) (n:=b) (by omega) hcb;refine j4 (u:=.mk) (gE (e:=0) (b:=.none) cB2 ((o2 3 (by decide)).trans (k1 3 (by omega))) ?_);rw [List.length_map,bJ];have n3:(3:Nat) < h2.length:=by rw [l2];simp
 have g3:(h2.set 3 (1,.data 1 ((aO cb b).map u6) true false))[3]? = some (1,.data 1 ((aO cb b).map u6) true false):=by simp [n3]
 have o3:∀ j,j≠3->(h2.set 3 (1,.data 1 ((aO cb b).map u6) true false))[j]? = h2[j]?:=fun j hj=>by rw [List.getElem?_set_ne (Ne.symm hj)]
 have nv3:=nv2.upd g3 o3;generalize h2.set 3 (1,.data 1 ((aO cb b).map u6) true false)=h3 at *;obtain ⟨k,hk⟩:∃ k,k=bn a - bn b:=⟨_,rfl⟩;have hr2:am (.ref 3 (0+1) 0 (bn b) cb cb)=some (I (bn b:Nat)):=rfl
 have hb2:biI .sub (I (bn a:Int)) (I (bn b:Int))=some (I k):=by
  rw [pF,show ((bn a:Int) - (bn b:Int))=(k:Int) by omega,oe (by omega) (by omega)]
 simp only [show am (V.ref 3 (0+1) 0 (dig Z b).length cb cb)=some (I (bn b:Nat)) from rfl,hb2];have q2:h3[2]? = some (1,.data 1 ((aO cb b).map u6) true false):=(o3 2 (by decide)).trans g2;have q4:h3[4]? = some (0,.none):=((o3 4 (by decide)).trans (o2 4 (by decide))).trans (k1 4 (by omega))
 refine IM (u:=.mk) (s:=2) (t:=4) (by omega) q2 q4 LB (by omega) fun t1 s4 h4 l4 hs4 o4 ⟨e4,l4',ex4,g4⟩ rd=>?_
 have nv4:=nv3.upd g4 o4;have hss:s1≠s4:=by rcases hs1 with rfl | rfl <;> rcases hs4 with rfl | rfl <;> omega
 have h12:s1≠2∧s1≠3:=by rcases hs1 with rfl | rfl <;> omega
 have gs:h4[s1]? = some (e1,.data 1 ((dig Z a++[0]).map u6) ex1 false):=(((o4 s1 hss).trans (o3 s1 h12.2)).trans (o2 s1 h12.1)).trans g1;have lt4:=aD gs;have hdl:(dig Z b++List.replicate k 0).length=bn a:=by simp only [Zm,Y0];show bn b+k=_;omega
 have sD:au Z (dig Z b++List.replicate k 0):=mO (bB ag b) (ln _);have vD:val Z (dig Z b++List.replicate k 0)=b:=by rw [kE,fq ag]
 have rdS:=rd (fun t=>∃ l,t=sP h4 s1 e1 ex1 l) (fun g ⟨l,hg⟩=>by rw [hg];unfold sP;rw [List.getElem?_set_ne hss]);obtain ⟨c1,c2,c3⟩:=Kw (n:=bn a) rfl hdl (bB ag a) sD (fq ag a) vD hba
 have bk:=Du (g:=1) (at_:=0) (tot:=bn a+1) (l:=dig Z a++[0]) (ex:=ex1) (e:=e1) (s:=s1) (h:=h4) (nv4.all _) lt4 rdS sD Ev (by rw [hdl];omega) (by omega) (by simp [bn]) (mO (bB ag a) (ln 1));rw [HB gs] at bk;refine j4 (u:=.mk) (kY bk ?_ (by simp));exact AA nv4 lt4 c3 c1 c2 (by omega) (fun v=>.tup [v,I 0]) (fun _=>ai rfl rfl)
theorem rC {z:Int} {w:Nat} (h:sdg z<=w):z.natAbs<10 ^ w:=by
 have:ndg z.natAbs<=w:=by unfold sdg at h;omega
 exact Z2 (bP _) (Z5 (by decide) this)
theorem lF {z:Int} (h1 : -9223372036854775808<z) (h2:z<9223372036854775808):CP Y F.cY [I z] (S (itoa z)):=by
 refine xz ?_;simp (disch:=first|omega|simp<;>omega|fail)[cY];refine cd (xm h1 h2) ?_;exact cT rfl
theorem nK {a b k:Nat} (ha:ndg a<=k) (hb:ndg b<=k):ndg (a+b)<=k+1:=by
 have h1:a<10 ^ k:=Z2 (bP a) (Z5 (by decide) ha);have h2:b<10 ^ k:=Z2 (bP b) (Z5 (by decide) hb);exact a6 (by rw [Nat.pow_succ];omega) (by omega)
theorem Ns {z w:Int} (hz:ndg z.natAbs<999999) (hw:ndg w.natAbs<999999) : 
  cal (CX Y).p [] (.fn F.aF [] []) [S (itoa z)] fun v6 h=>
  ext v6 0 fun v7=>
  ext v6 1 fun v8=>
  cal (CX Y).p h (.fn F.aF [] []) [S (itoa w)] fun v9 h=>
  ext v9 0 fun v10=>
  ext v9 1 fun v11=>
  bnd (biB .eql v7 v10) fun v12=>
  cnd v12 (
   cal (CX Y).p h (.fn F.fU [] []) [v8,v11] fun v13 h=>
   cal (CX Y).p h (.fn F.bA [] []) [v7,v13] fun v14 h=>
   out (S (itoa (z+w))) v14 h) (
   cal (CX Y).p h (.fn F.bw [] []) [v8,v11] fun v15 h=>
   bnd (biI .lss v15 (.d (.int .i64 0))) fun v16=>
   jn (fun l17 h=>
    cal (CX Y).p h (.fn F.gU [] []) [(ge l17 1),(ge l17 2)] fun v19 h=>
    ext v19 0 fun v20=>
    ext v19 1 fun v21=>
    cal (CX Y).p h (.fn F.bA [] []) [(ge l17 0),v20] fun v22 h=>
    out (S (itoa (z+w))) v22 h) fun q18=>
    cnd v16 (
     q18 [v10,v11,v8] h) (
     q18 [v7,v8,v11] h)):=by
 simp (disch:=first|omega|simp<;>omega|fail)[];refine cd (mM z) ?_;simp (disch:=first|omega|simp<;>omega|fail)[];refine cd (mM w) ?_;have eb:biB .eql (B (decide (z<0))) (B (decide (w<0)))=some (B (decide (z<0) == decide (w<0))):=rfl;simp (disch:=first|omega|simp<;>omega|fail)[eb];by_cases hs:(z<0↔w<0)
 ·simp (disch:=first|omega|simp<;>omega|fail)[hs];refine cd (zg (a:=z.natAbs) (b:=w.natAbs) (by omega) (by omega)) ?_;simp (disch:=first|omega|simp<;>omega|fail)[];have hk:ndg (z.natAbs+w.natAbs)<=999999:=nK (by omega) (by omega);refine cd (jF (decide (z<0)) (n:=z.natAbs+w.natAbs) (by omega)) ?_;refine cT ?_;congr 1;unfold sg;by_cases h:z<0
  ·simp [h];omega
  ·simp [h];omega
 ·simp (disch:=first|omega|simp<;>omega|fail)[hs];refine cd (rP (a:=z.natAbs) (b:=w.natAbs) (by omega) (by omega)) ?_;simp (disch:=first|omega|simp<;>omega|fail)[];by_cases hlt:z.natAbs<w.natAbs
  ·have hc:Big.cmp z.natAbs w.natAbs<0:=by rw [zk hlt];decide
   refine eU (l:=[B (decide (w<0)),S (aa w.natAbs),S (aa z.natAbs)]) (h:=[]) (fun q=>by simp (disch:=first|omega|simp<;>omega|fail)[hc]) ?_;simp (disch:=first|omega|simp<;>omega|fail)[];refine cd (vG (a:=w.natAbs) (b:=z.natAbs) (by omega) (by omega)) ?_;simp (disch:=first|omega|simp<;>omega|fail)[]
   refine cd (jF (decide (w<0)) (n:=w.natAbs-z.natAbs) (Ze (cC (Nat.sub_le ..)) (by omega))) ?_;refine cT ?_;congr 1;unfold sg;by_cases h:w<0
   ·simp [h];omega
   ·simp [h];omega
  ·have hc:¬ Big.cmp z.natAbs w.natAbs<0:=by
    rcases Nat.eq_or_lt_of_not_lt hlt with h | h
    ·rw [h,cmp_eq];decide
    ·rw [zm h];decide
   refine eU (l:=[B (decide (z<0)),S (aa z.natAbs),S (aa w.natAbs)]) (h:=[]) (fun q=>by simp (disch:=first|omega|simp<;>omega|fail)[hc]) ?_;simp (disch:=first|omega|simp<;>omega|fail)[];refine cd (vG (a:=z.natAbs) (b:=w.natAbs) (by omega) (by omega)) ?_;simp (disch:=first|omega|simp<;>omega|fail)[]
   refine cd (jF (decide (z<0)) (n:=z.natAbs-w.natAbs) (Ze (cC (Nat.sub_le ..)) (by omega))) ?_;refine cT ?_;congr 1;unfold sg;by_cases h:z<0
   ·simp [h];omega
   ·simp [h];omega
theorem qt {z w:Int} (hz:ndg z.natAbs<999999) (hw:ndg w.natAbs<999999):CP Y F.bM [S (itoa z),S (itoa w)] (S (itoa (z+w))):=by
 refine Dg ?_;have l1:=nf z 18 (by decide);have l2:=nf w 18 (by decide);have tl:=Ns hz hw;simp (disch:=first|omega|simp<;>omega|fail)[bM];refine cd l1 ?_;by_cases h1:sdg z<=18
 ·rw [if_pos h1];simp (disch:=first|omega|simp<;>omega|fail)[];by_cases h2:sdg w<=18
  ·rw [if_pos h2] at l2;refine bC ?_;simp (disch:=first|omega|simp<;>omega|fail)[];refine cd l2 ?_;have b1:=rC h1;have b2:=rC h2;simp only [Nat.reducePow] at b1 b2;obtain ⟨m,hm⟩:∃ m,z+w=m:=⟨_,rfl⟩;rw [hm];simp (disch:=first|omega|simp<;>omega|fail)[hm];refine cd (lF (z:=m) (by omega) (by omega)) ?_;exact cT rfl
  ·rw [if_neg h2] at l2;refine bC ?_;simp (disch:=first|omega|simp<;>omega|fail)[];refine cd l2 ?_;simp (disch:=first|omega|simp<;>omega|fail)[];simpa using tl
 ·rw [if_neg h1];simp (disch:=first|omega|simp<;>omega|fail)[];refine bC ?_;simp (disch:=first|omega|simp<;>omega|fail)[];simpa using tl
theorem og {z w:Int} (hz:ndg z.natAbs<400000) (hw:ndg w.natAbs<400000):CP Y F.ax [S (itoa z),S (itoa w)] (S (itoa (z*w))):=by
 refine Da ?_;have l1:=nf z 9 (by decide);have l2:=nf w 9 (by decide);have dm:=Bc (a:=z.natAbs) (b:=w.natAbs) (by omega) (by omega)
 have hk:ndg (z.natAbs*w.natAbs)<1000000:=by
  have h1:=bP z.natAbs;have h2:=bP w.natAbs;have h3:z.natAbs*w.natAbs<10 ^ (ndg z.natAbs+ndg w.natAbs):=by rw [Yz];exact Yo h1 h2
  have:=a6 h3 (by have:=iE z.natAbs;omega);omega
 have e:sg (decide (z<0) != decide (w<0)) (z.natAbs*w.natAbs)=z*w:=by
  unfold sg;by_cases h1:z<0 <;> by_cases h2:w<0
  ·simp [h1,h2];rw [Xm (by omega),Xm (by omega),Int.neg_mul_neg]
  ·simp [h1,h2];rw [Xm (by omega),Wr (by omega),Wq,Int.neg_neg]
  ·simp [h1,h2];rw [Wr (by omega),Xm (by omega),Int.mul_neg,Int.neg_neg]
  ·simp [h1,h2];rw [Wr (by omega),Wr (by omega)]
 have eb:biB .neq (B (decide (z<0))) (B (decide (w<0)))=some (B (decide (z<0) != decide (w<0))):=rfl;have jo:=jF (decide (z<0) != decide (w<0)) hk;rw [e] at jo
 have tail:∀ u:Unit,cal (CX Y).p [] (.fn F.aF [] []) [S (itoa z)] fun v6 h=>
  ext v6 0 fun v7=>
  ext v6 1 fun v8=>
  cal (CX Y).p h (.fn F.aF [] []) [S (itoa w)] fun v9 h=>
  ext v9 0 fun v10=>
  ext v9 1 fun v11=>
  bnd (biB .neq v7 v10) fun v12=>
  cal (CX Y).p h (.fn F.gV [] []) [v8,v11] fun v13 h=>
  cal (CX Y).p h (.fn F.bA [] []) [v12,v13] fun v14 h=>
  out (S (itoa (z*w))) v14 h:=by
  intro _;simp (disch:=first|omega|simp<;>omega|fail)[];refine cd (mM z) ?_;simp (disch:=first|omega|simp<;>omega|fail)[];refine cd (mM w) ?_;simp (disch:=first|omega|simp<;>omega|fail)[eb];refine cd dm ?_;simp (disch:=first|omega|simp<;>omega|fail)[];refine cd jo ?_;exact cT rfl
 simp (disch:=first|omega|simp<;>omega|fail)[ax];refine cd l1 ?_;by_cases h1:sdg z<=9
 ·rw [if_pos h1];simp (disch:=first|omega|simp<;>omega|fail)[];by_cases h2:sdg w<=9
  ·rw [if_pos h2] at l2;refine bC ?_;simp (disch:=first|omega|simp<;>omega|fail)[];refine cd l2 ?_;have b1:=rC h1;have b2:=rC h2
   have hmb:(z*w).natAbs<1000000000000000000:=by
    rw [Zi];exact Yo b1 b2
   obtain ⟨m,hm⟩:∃ m,z*w=m:=⟨_,rfl⟩;rw [hm] at hmb ⊢;simp (disch:=first|omega|simp<;>omega|fail)[hm];refine cd (lF (z:=m) (by omega) (by omega)) ?_;exact cT rfl
  ·rw [if_neg h2] at l2;refine bC ?_;simp (disch:=first|omega|simp<;>omega|fail)[];refine cd l2 ?_;simp (disch:=first|omega|simp<;>omega|fail)[];simpa using tail ()
 ·rw [if_neg h1];simp (disch:=first|omega|simp<;>omega|fail)[];refine bC ?_;simp (disch:=first|omega|simp<;>omega|fail)[];simpa using tail ()
theorem bW (n:Nat):itoa (n:Int)=aa n:=by
 unfold itoa;rw [if_neg (by omega),Int.natAbs_natCast]
theorem NM (n:Nat):sgn (n:Int)=if n=0 then 0 else 1:=by
 unfold sgn;by_cases h:n=0
 ·simp [h]
 ·rw [if_neg (by omega),if_neg (by omega),if_neg h]
theorem DT (n:Nat):CP Y F.aZ [S (aa n)] (I (if n=0 then 0 else 1)):=by
 have:=iO (n:Int)
 rwa [bW,NM] at this
theorem Di {a b:Nat} (ha:ndg a<1000000) (hb:ndg b<1000000):CP Y F.fL [S (aa a),S (aa b)] (I (Big.cmp a b)):=by
 refine wn ?_;have s1:=DT a;have s2:=DT b;simp (disch:=first|omega|simp<;>omega|fail)[fL];by_cases h1:a=0
 ·rw [if_pos h1] at s1;by_cases h2:b=0
  ·rw [if_pos h2] at s2;refine cd s1 ?_;simp (disch:=first|omega|simp<;>omega|fail)[];refine cd s2 ?_;simp (disch:=first|omega|simp<;>omega|fail)[];refine cd (mN a) ?_;simp (disch:=first|omega|simp<;>omega|fail)[];refine cd (mN b) ?_;simp (disch:=first|omega|simp<;>omega|fail)[]
   refine eU (l:=[S (aa a),S (aa b)]) (h:=[]) (fun q=>by simp (disch:=first|omega|simp<;>omega|fail)[]) ?_;simp (disch:=first|omega|simp<;>omega|fail)[];refine cd (rP ha hb) ?_;exact bH rfl
  ·rw [if_neg h2] at s2;refine cd s1 ?_;simp (disch:=first|omega|simp<;>omega|fail)[];refine cd s2 ?_;simp (disch:=first|omega|simp<;>omega|fail)[];exact bH (zk (by omega)).symm
 ·rw [if_neg h1] at s1;by_cases h2:b=0
  ·rw [if_pos h2] at s2;refine cd s1 ?_;simp (disch:=first|omega|simp<;>omega|fail)[];refine cd s2 ?_;simp (disch:=first|omega|simp<;>omega|fail)[];exact bH (zm (by omega)).symm
  ·rw [if_neg h2] at s2;refine cd s1 ?_;simp (disch:=first|omega|simp<;>omega|fail)[];refine cd s2 ?_;simp (disch:=first|omega|simp<;>omega|fail)[];refine cd (mN a) ?_;simp (disch:=first|omega|simp<;>omega|fail)[];refine cd (mN b) ?_;simp (disch:=first|omega|simp<;>omega|fail)[]
   refine eU (l:=[S (aa a),S (aa b)]) (h:=[]) (fun q=>by simp (disch:=first|omega|simp<;>omega|fail)[]) ?_;simp (disch:=first|omega|simp<;>omega|fail)[];refine cd (rP ha hb) ?_;exact bH rfl
theorem yX {a b:Nat} (hb:0<b):(-(a:Int)) / (b:Int)=(if a % b=0 then -((a / b:Nat):Int) else -((a / b+1:Nat):Int))∧(-(a:Int)) % (b:Int)=(if a % b=0 then 0 else ((b-a % b:Nat):Int)):=by
 have h1:=X6 a b;have h2:=Y8 a hb;have hbz:(b:Int) > 0:=by omega
 generalize a % b=r at *;generalize a / b=q at *;by_cases h:r=0
 ·subst h;simp only [if_true]
  have e:(-(a:Int))=(b:Int)*(-(q:Int)):=by
   rw [Int.mul_neg,<- Int.natCast_mul];congr 1;omega
  rw [e];exact ⟨Int.mul_ediv_cancel_left _ (by omega),Int.mul_emod_right _ _⟩
 ·simp only [if_neg h]
  have e:(-(a:Int))=((b-r:Nat):Int)+(b:Int)*(-((q+1:Nat):Int)):=by
   have:(a:Int)=(b:Int)*q+r:=by rw [<- Int.natCast_mul];omega
   rw [this,Int.mul_neg,Int.natCast_add,Wh];have:((b-r:Nat):Int)=(b:Int)-r:=by omega
   omega
  have l1:(0:Int)<=((b-r:Nat):Int):=by omega
  have l2:((b-r:Nat):Int)<(b:Int):=by omega
  rw [e];constructor
  ·rw [Int.add_mul_ediv_left _ _ (by omega),Int.ediv_eq_zero_of_lt l1 l2,Wc]
  ·rw [Int.add_mul_emod_self_left,Int.emod_eq_of_lt l1 l2]
theorem tU:ndg 1=1:=by decide +kernel
theorem rH {a b a' b':List UInt8} {c:Int} {h:Hp} (e1:a'=a) (e2:b'=b):out (.tup [S a,S b,I c]) (.tup [S a',S b',I c]) h:=by
 subst e1;subst e2;exact gN rfl rfl rfl
theorem OO {z:Int} {b:Nat} (hb:0<b) (hz:ndg z.natAbs<900000) (hbd:ndg b<900000) :
   cal (CX Y).p [] (.fn F.aF [] []) [S (itoa z)] fun v7 h=>
   ext v7 0 fun v8=>
   ext v7 1 fun v9=>
   cal (CX Y).p h (.fn F.aF [] []) [S (aa b)] fun v10 h=>
   ext v10 0 fun v11=>
   ext v10 1 fun v12=>
   cal (CX Y).p h (.fn F.dS [] []) [v9,v12] fun v13 h=>
   ext v13 0 fun v14=>
   ext v13 1 fun v15=>
   ext v13 2 fun v16=>
   bnd (biI .neq v16 (.d (.int .i64 0))) fun v17=>
   cnd v17 (
    out (.tup [S (itoa (z / b)),S (itoa (z % b)),I 0]) (.tup [(.d (.str [])),(.d (.str [])),v16]) h) (
    bnd (biB .neq v8 v11) fun v18=>
    gd v18 true h (fun q=>q v15 h) fun v19 h=>
    gd v18 true h (fun q=>bnd (biS .neq v19 (.d (.str [48]))) fun v=>q v h) fun v20 h=>
    bnd (aN v18 v20 (.d (.bool false))) fun v21=>
    jn (fun l22 h=>
     bnd (biB .neq v8 v11) fun v24=>
     cal (CX Y).p h (.fn F.bA [] []) [v24,(ge l22 0)] fun v25 h=>
     cal (CX Y).p h (.fn F.bA [] []) [v11,(ge l22 1)] fun v26 h=>
     out (.tup [S (itoa (z / b)),S (itoa (z % b)),I 0]) (.tup [v25,v26,(.d (.int .i64 0))]) h) fun q23=>
     cnd v21 (
      cal (CX Y).p h (.fn F.fU [] []) [v14,(.d (.str [49]))] fun v27 h=>
      cal (CX Y).p h (.fn F.gU [] []) [v12,v15] fun v28 h=>
      ext v28 0 fun v29=>
      ext v28 1 fun v30=>
      q23 [v27,v29] h) (
      q23 [v14,v15] h)):=by
 have hq:ndg (z.natAbs / b)<=ndg z.natAbs:=cC (Yi ..);have hr:z.natAbs % b<b:=Y8 _ hb;have hr2:ndg (z.natAbs % b)<=ndg b:=cC (by omega)
 have eb:biB .neq (B (decide (z<0))) (B false)=some (B (decide (z<0))):=by
  show some (B (decide (z<0) != false))=_
  rw [Bool.bne_false]
 simp (disch:=first|omega|simp<;>omega|fail)[];refine cd (mM z) ?_;simp (disch:=first|omega|simp<;>omega|fail)[];refine cd (mN b) ?_;simp (disch:=first|omega|simp<;>omega|fail)[];refine cd (vz (a:=z.natAbs) hb (by omega) (by omega)) ?_;by_cases hneg:z<0
 ·have ez:z = -(z.natAbs:Int):=by omega
  obtain ⟨d1,d2⟩:=yX (a:=z.natAbs) hb;rw [<- ez] at d1 d2;rw [decide_eq_true hneg] at eb ⊢;by_cases h0:z.natAbs % b=0
  ·rw [if_pos h0] at d1 d2;rw [h0,dt];simp (disch:=first|omega|simp<;>omega|fail)[eb];refine eU (l:=[S (aa (z.natAbs / b)),S [48]]) (h:=[]) (fun q=>by simp (disch:=first|omega|simp<;>omega|fail)[]) ?_;simp (disch:=first|omega|simp<;>omega|fail)[eb];refine cd (jF true (n:=z.natAbs / b) (by omega)) ?_;simp (disch:=first|omega|simp<;>omega|fail)[]
   have j0:=jF false (n:=0) (by decide +kernel);rw [dt] at j0;refine cd j0 ?_;refine rH ?_ ?_
   ·rw [d1];rfl
   ·rw [d2];rfl
  ·rw [if_neg h0] at d1 d2;have h48:¬ aa (z.natAbs % b)=[48]:=fun h=>h0 (iZ.1 h)
   have ad:=zg (a:=z.natAbs / b) (b:=1) (by omega) (by rw [tU];omega);rw [show aa 1=[49] by decide +kernel] at ad;simp (disch:=first|omega|simp<;>omega|fail)[eb,h48];refine bC ?_;simp (disch:=first|omega|simp<;>omega|fail)[h48];refine cd ad ?_;simp (disch:=first|omega|simp<;>omega|fail)[];refine cd (vG (a:=b) (b:=z.natAbs % b) (by omega) (by omega)) ?_
   simp (disch:=first|omega|simp<;>omega|fail)[eb];have hq1:ndg (z.natAbs / b+1)<=900000+1:=nK (by omega) (by rw [tU];omega);refine cd (jF true (n:=z.natAbs / b+1) (by omega)) ?_;simp (disch:=first|omega|simp<;>omega|fail)[];refine cd (jF false (n:=b-z.natAbs % b) (Ze (cC (Nat.sub_le ..)) (by omega))) ?_;refine rH ?_ ?_
   ·rw [d1];rfl
   ·rw [d2];rfl
 ·rw [decide_eq_false hneg] at eb ⊢;simp (disch:=first|omega|simp<;>omega|fail)[eb];refine eU (l:=[S (aa (z.natAbs / b)),S (aa (z.natAbs % b))]) (h:=[]) (fun q=>by simp (disch:=first|omega|simp<;>omega|fail)[]) ?_;simp (disch:=first|omega|simp<;>omega|fail)[eb];refine cd (jF false (n:=z.natAbs / b) (by omega)) ?_;simp (disch:=first|omega|simp<;>omega|fail)[]
  refine cd (jF false (n:=z.natAbs % b) (by omega)) ?_;have ez:z=(z.natAbs:Int):=by omega
  refine rH ?_ ?_
  ·rw [ez,<- Int.natCast_ediv];rfl
  ·rw [ez,<- Int.natCast_emod];rfl
theorem oU {z:Int} {b:Nat} (hb:0<b) (hz:ndg z.natAbs<900000) (hbd:ndg b<900000):CP Y F.aH [S (itoa z),S (aa b)] (.tup [S (itoa (z / b)),S (itoa (z % b)),I 0]):=by
 refine xB ?_;have l1:=nf z 18 (by decide);have l2:=GG b 18 (by decide);have tl:=OO hb hz hbd;have h48:¬ aa b=[48]:=fun h=>by have:=iZ.1 h;omega
 simp (disch:=first|omega|simp<;>omega|fail)[aH,h48];refine cd l1 ?_;by_cases h1:sdg z<=18
 ·rw [if_pos h1];by_cases h2:ndg b<=18
  ·rw [if_pos h2] at l2;simp (disch:=first|omega|simp<;>omega|fail)[];refine bC ?_;simp (disch:=first|omega|simp<;>omega|fail)[];refine cd l2 ?_;have b1:=rC h1;have b2:b<10 ^ 18:=Z2 (bP b) (Z5 (by decide) h2);simp only [Nat.reducePow] at b1 b2;have hbz:¬ (b:Int)=0:=by omega
   obtain ⟨n,hn⟩:∃ n,n=z.natAbs:=⟨_,rfl⟩;rw [<- hn] at b1;have hq:n / b<=n:=Yi ..;have hr:n % b<b:=Y8 _ hb;by_cases hneg:z<0
   ·have ez:z = -(n:Int):=by omega
    obtain ⟨d1,d2⟩:=yX (a:=n) hb;rw [<- ez] at d1 d2;have q1:z.tdiv (b:Int) = -((n / b:Nat):Int):=by rw [ez,Int.neg_tdiv,Zv (by omega),<- Int.natCast_ediv]
    have q2:z.tmod (b:Int) = -((n % b:Nat):Int):=by rw [ez,Int.neg_tmod,Zx (by omega),<- Int.natCast_emod]
    obtain ⟨q,hqq⟩:∃ q,q=n / b:=⟨_,rfl⟩;obtain ⟨r,hrr⟩:∃ r,r=n % b:=⟨_,rfl⟩;rw [<- hqq] at q1 d1 hq;rw [<- hrr] at q2 d1 d2 hr;by_cases h0:r=0
    ·rw [if_pos h0] at d1 d2;rw [h0] at q2;simp (disch:=first|omega|simp<;>omega|fail)[q1,q2];refine eU (l:=[I (-(q:Int)),I 0]) (h:=[]) (fun q=>by simp (disch:=first|omega|simp<;>omega|fail)[]) ?_;simp (disch:=first|omega|simp<;>omega|fail)[];refine cd (lF (z:=-(q:Int)) (by omega) (by omega)) ?_;simp (disch:=first|omega|simp<;>omega|fail)[];refine cd (lF (z:=0) (by omega) (by omega)) ?_
     refine rH ?_ ?_
     ·rw [d1]
     ·rw [d2]
    ·rw [if_neg h0] at d1 d2;have r0:¬ (-(r:Int))=0:=by omega
     have r1:(-(r:Int))<0:=by omega
     have r2:¬ (b:Int)<0:=by omega
     have eb:∀ x y:Bool,biB .neq (B x) (B y)=some (B (x != y)):=fun _ _=>rfl
     simp (disch:=first|omega|simp<;>omega|fail)[q1,q2,r0,r1,r2,eb];refine eU (l:=[I (-(q:Int)-1),I (-(r:Int)+b)]) (h:=[]) (fun q=>by simp (disch:=first|omega|simp<;>omega|fail)[r0,r1,r2]) ?_;simp (disch:=first|omega|simp<;>omega|fail)[];refine cd (lF (z:=-(q:Int)-1) (by omega) (by omega)) ?_;simp (disch:=first|omega|simp<;>omega|fail)[]
     refine cd (lF (z:=-(r:Int)+b) (by omega) (by omega)) ?_;refine rH ?_ ?_
     ·rw [d1];congr 1;omega
     ·rw [d2];congr 1;omega
   ·have ez:z=(n:Int):=by omega
    have q1:z.tdiv (b:Int)=((n / b:Nat):Int):=by rw [ez,Zv (by omega),<- Int.natCast_ediv]
    have q2:z.tmod (b:Int)=((n % b:Nat):Int):=by rw [ez,Zx (by omega),<- Int.natCast_emod]
    have d1:z / (b:Int)=((n / b:Nat):Int):=by rw [ez,<- Int.natCast_ediv]
    have d2:z % (b:Int)=((n % b:Nat):Int):=by rw [ez,<- Int.natCast_emod]
    obtain ⟨q,hqq⟩:∃ q,q=n / b:=⟨_,rfl⟩;obtain ⟨r,hrr⟩:∃ r,r=n % b:=⟨_,rfl⟩;rw [<- hqq] at q1 d1 hq;rw [<- hrr] at q2 d2 hr;have r1:¬ ((r:Int))<0:=by omega
    have r2:¬ (b:Int)<0:=by omega
    have eb:∀ x y:Bool,biB .neq (B x) (B y)=some (B (x != y)):=fun _ _=>rfl
    have fin:∀ h:Hp,cal (CX Y).p h (V.fn F.cY [] []) [I q] fun v45 h=>
      cal (CX Y).p h (V.fn F.cY [] []) [I r] fun v46 h=>out (V.tup [S (itoa (z / (b:Int))),S (itoa (z % (b:Int))),I 0]) (V.tup [v45,v46,V.d (D.int IntKind.i64 0)]) h:=by
     intro h;simp (disch:=first|omega|simp<;>omega|fail)[];refine cd (lF (z:=q) (by omega) (by omega)) ?_;simp (disch:=first|omega|simp<;>omega|fail)[];refine cd (lF (z:=r) (by omega) (by omega)) ?_;refine rH ?_ ?_
     ·rw [d1]
     ·rw [d2]
    by_cases h0:r=0
    ·rw [h0] at q2 fin;simp (disch:=first|omega|simp<;>omega|fail)[q1,q2];refine eU (l:=[I q,I 0]) (h:=[]) (fun q=>by simp (disch:=first|omega|simp<;>omega|fail)[]) ?_;exact fin []
    ·have r0:¬ (r:Int)=0:=by omega
     simp (disch:=first|omega|simp<;>omega|fail)[q1,q2,r0,r1,r2,eb];refine eU (l:=[I q,I r]) (h:=[]) (fun q=>by simp (disch:=first|omega|simp<;>omega|fail)[r0,r1,r2]) ?_;exact fin []
  ·rw [if_neg h2] at l2;simp (disch:=first|omega|simp<;>omega|fail)[];refine bC ?_;simp (disch:=first|omega|simp<;>omega|fail)[];refine cd l2 ?_;simp (disch:=first|omega|simp<;>omega|fail)[];simpa using tl
 ·rw [if_neg h1];simp (disch:=first|omega|simp<;>omega|fail)[];refine bC ?_;simp (disch:=first|omega|simp<;>omega|fail)[];simpa using tl
theorem J5 {a b:Nat} (ha0:0<a) (hb0:0<b) (ha:ndg a<400000) (hb:ndg b<400000):CP Y F.jH [S (aa a),S (aa b)] (S (aa (Nat.lcm a b))):=by
 refine Ae ?_;have h1:¬ aa a=[48]:=fun h=>by have:=iZ.1 h;omega
 have h2:¬ aa b=[48]:=fun h=>by have:=iZ.1 h;omega
 have hg:0<Nat.gcd a b:=Nat.gcd_pos_of_pos_left _ ha0;have hgl:Nat.gcd a b<=a:=Nat.gcd_le_left _ ha0;have hq:ndg (a / Nat.gcd a b)<=ndg a:=cC (Yi ..);simp (disch:=first|omega|simp<;>omega|fail)[jH,h1,h2];refine cd (Ii (by omega) (by omega)) ?_;simp (disch:=first|omega|simp<;>omega|fail)[]
 refine cd (vz (a:=a) (b:=Nat.gcd a b) hg (by omega) (by have:=cC hgl;omega)) ?_;simp (disch:=first|omega|simp<;>omega|fail)[];refine cd (Bc (a:=a / Nat.gcd a b) (b:=b) (by omega) (by omega)) ?_;refine cT ?_;congr 1;rw [Nat.lcm,Zy,<- Nat.mul_div_assoc _ (Wm a b),Zy]
theorem IR (n:Nat):CP Y F.fW [S (aa n)] (S (aa n)):=by
 have:=CV (n:Int)
 rwa [bW,Int.natAbs_natCast] at this
theorem Nz {a b:Nat} (ha0:0<a) (hb0:0<b) (ha:ndg a<400000) (hb:ndg b<400000):CP Y F.kC [S (aa a),S (aa b)] (S (aa (Nat.lcm a b))):=by
 refine Dc ?_;simp (disch:=first|omega|simp<;>omega|fail)[kC];refine cd (IR a) ?_;simp (disch:=first|omega|simp<;>omega|fail)[];refine cd (IR b) ?_;simp (disch:=first|omega|simp<;>omega|fail)[];refine cd (J5 ha0 hb0 ha hb) ?_;exact cT rfl
theorem Jw {z:Int} (h:z.natAbs<9223372036854775808):CP Y F.d8 [S (itoa z),I 10,I 64] (.tup [I z,.d (.pl .nilIface)]):=by
 have key:∀ n:Nat,n<9223372036854775808->(aa n)≠[]∧(aa n).all kz=true∧(aa n).length<=1000∧k8 0 (aa n)=n:=by
  intro n hn;have hd:=cF n;have hc:=nz n
  have hl:(aa n).length<=1000:=by
   have:=a6 (n:=n) (d:=19) (by omega) (by decide);rw [aa,aK];omega
  simp only [ma,Z8] at hc
  have hall:(aa n).all kz=true:=by
   rw [<- hc.1.2];congr 1;funext c;exact digit_eq c
  exact ⟨qN n,hall,hl,by rw [rO,hd]⟩
 have ho:Y.X.orc F.d8 [.string ⟨⟨itoa z⟩⟩,.int .i64 10,.int .i64 64]=some (.tuple #[.int .i64 z,.nilIface]):=by
  have e:∀ a,Y.X.orc F.d8 a=HS a:=fun a=>rfl
  rw [e];obtain ⟨k1,k2,k3,k4⟩:=key _ h;unfold HS;simp only;rw [if_pos ⟨trivial,trivial⟩];by_cases hz:z<0
  ·have e1:itoa z=45::aa z.natAbs:=by unfold itoa;rw [if_pos hz]
   rw [e1];simp only;rw [if_pos ⟨k1,k2,k3,by rw [k4];exact h⟩,k4,show (-((z.natAbs:Nat):Int))=z by omega]
  ·have e1:itoa z=aa z.natAbs:=by unfold itoa;rw [if_neg hz]
   rw [e1];have hh:=ni z.natAbs;have ez:((z.natAbs:Nat):Int)=z:=by omega
   generalize aa z.natAbs=L at *
   have fin:(if L≠[]∧L.all kz=true∧L.length<=1000∧k8 0 L<9223372036854775808 then some (Value.tuple #[.int .i64 (k8 0 L),.nilIface]) else none)=some (Value.tuple #[.int .i64 z,.nilIface]):=by
    rw [if_pos ⟨k1,k2,k3,by rw [k4];exact h⟩,k4,ez]
   split
   ·rename_i l hl;exact absurd rfl hh
   ·exact fin
 exact CP.orc ho (by intro x hx;simp only [Zt,Zb,or_false] at hx;rcases hx with rfl | rfl | rfl <;> rfl) rfl
theorem u0 {z:Int} (h:z.natAbs<9223372036854775808):CP Y F.gI [S (itoa z)] (.tup [I z,B true]):=by
 refine zA ?_;simp (disch:=first|omega|simp<;>omega|fail)[gI];refine cd (Jw h) ?_;simp (disch:=first|omega|simp<;>omega|fail)[Ca];exact ai rfl rfl
def RdN (s:Nat) (h:Hp) (v:V) (d:List Nat):Prop:=∀ h':Hp,h'.length=h.length->(∀ j,j≠s->h'[j]? = h[j]?)->RdP h' v d∧∃ h2,aA h' v=some (lst u6 d,h2)
theorem RdN.now {s:Nat} {h:Hp} {v:V} {d:List Nat} (r:RdN s h v d):RdP h v d:=(r h rfl fun _ _=>rfl).1
theorem RdN.step {s:Nat} {h h2:Hp} {v:V} {d:List Nat} (r:RdN s h v d) (hl:h2.length=h.length) (hs:∀ j,j≠s->h2[j]? = h[j]?):RdN s h2 v d:=
 fun h' h1 h3=>r h' (h1.trans hl) fun j hj=>(h3 j hj).trans (hs j hj)
theorem RdN.new {s t e N m:Nat} {h:Hp} (hst:s≠t) (hg:h[t]? = some (e,.data 1 ((aO N m).map u6) true false)) (hm:m<Z ^ N):RdN s h (.ref t e 0 (dig Z m).length N N) (dig Z m):=fun h' hl ho=>by
 have:=xx (h:=h') (cap:=N) ((ho t (Ne.symm hst)).trans hg) (bJ ..).symm (fG hm);rw [jV hm] at this;have sn:=qy (h:=h') ((ho t (Ne.symm hst)).trans hg) (bJ ..).symm (len:=(dig Z m).length) (cap:=N) (fG hm) (Z7 _);rw [jV hm] at sn;exact ⟨this,_,sn⟩
theorem and_one {n:Int} (h0:0<=n) (h1:n<9223372036854775808):biI .and (I n) (I 1)=some (I (n % 2)):=by
 obtain ⟨m,rfl⟩:∃ m:Nat,n=m:=⟨n.toNat,by omega⟩
 have hb:(BitVec.ofInt 64 (m:Int) &&& BitVec.ofInt 64 1).toNat=m % 2:=by
  rw [BitVec.toNat_and]
  have e1:(BitVec.ofInt 64 (m:Int)).toNat=m:=by
   rw [BitVec.toNat_ofInt];omega
  have e2:(BitVec.ofInt 64 (1:Int)).toNat=1:=by decide
  rw [e1,e2,Nat.and_one_is_mod]
 simp only [biI,fj,ne_eq,not_true_eq_false,if_false,jC,gn]
 show some (V.d (.int .i64 (IntKind.wrap .i64 ((BitVec.ofInt 64 (m:Int) &&& BitVec.ofInt 64 1).toNat:Int))))=_
 rw [hb,oe (by omega) (by omega)];rfl
theorem Lm (k:KL):∀ (n A Bv:Nat) (o p:V) (h:Hp) (R:Nat),A * Bv ^ n=R->0 < A->0 < Bv->R < Z ^ 2000->n < 100000->h.length=3->NV h->RdN 2 h o (dig Z A)->RdN 1 h p (dig Z Bv) ->
  (∀ o' h' h2,h'.length=3->aA h' o'=some (lst u6 (dig Z R),h2)->NV h'->k (.exit 1) [o'] h')->∀ h0:Hp,h0.length=3->lp (iu (CX Y)) [] h0 [o,p,I n] h k:=by
 intro n
 induction n using Nat.strongRecOn with
 | ind n ih=>
  intro A Bv o p h R hR hA hB hlim hn hlen hnv ro rp hk h0 hl0;refine aj ?_;by_cases hz:n=0
  ·subst hz;simp (disch:=first|omega|simp<;>omega|fail)[iu];rw [Nat.pow_zero,Yl] at hR;subst hR;obtain ⟨h2,hs2⟩:=(ro h rfl fun _ _=>rfl).2;exact hk o h h2 hlen hs2 hnv
  have hpos:(n:Int) > 0:=by omega
  have hBR:Bv<=R:=by
   rw [<- hR];exact Z3 (Nat.le_of_eq (Nat.pow_one Bv).symm) (Z3 (Z5 hB (by omega)) (Nat.le_mul_of_pos_left _ hA))
  have hAR:A<=R:=by rw [<- hR];exact Zf _ (Yf hB)
  have dA:(dig Z A).length<=2000:=fG (by omega);have dB:(dig Z Bv).length<=2000:=fG (by omega);have and1:=and_one (n:=(n:Int)) (by omega) (by omega);have e2:((n:Int) / 2 ^ (1:Int).toNat)=((n / 2:Nat):Int):=by simp
  have sh:biI .shr (I n) (.d (.int .u64 1))=some (I (n / 2:Nat)):=by
   rw [NL (by omega) (by omega),e2]
  have hn2:n / 2 < n:=by omega
  -- what a product gives
  have times:∀ (h:Hp) (v w:V) (a b s:Nat),h.length=3->NV h->s < 3->RdP h v (dig Z a)->RdP h w (dig Z b)->(dig Z a).length<=2000->(dig Z b).length<=2000->∀ q:V->Hp->Prop,
    (∀ o' h',h'.length=3->NV h'->(∀ j,j≠s->h'[j]? = h[j]?)->(∀ t,t≠s->RdN t h' o' (dig Z (a * b)))->q o' h')->cai (CX Y).i h (V.fn F.aR [] []) [v,w] s q:=by
   intro h v w a b s hl hv hs r1 r2 d1 d2 q hq;obtain ⟨N,hN⟩:∃ N,N=(dig Z a).length+(dig Z b).length:=⟨_,rfl⟩;have tk:=uT (h:=h) (hv.all _) r1 (bB ag a) r2 (bB ag b) (by omega) (by omega) hN;rw [fq ag,fq ag] at tk;have hs3:s < h.length:=by omega
   have hm:a * b < Z ^ N:=by rw [hN,Yz];exact Yo (pj a) (pj b)
   refine gE (e:=h[s].1) (b:=h[s].2) tk (List.getElem?_eq_getElem hs3) ?_;rw [List.length_map,bJ];have gs:(h.set s (h[s].1+1,.data 1 ((aO N (a * b)).map u6) true false))[s]? = some (h[s].1+1,.data 1 ((aO N (a * b)).map u6) true false):=by simp [hs3]
   have os:∀ j,j≠s->(h.set s (h[s].1+1,.data 1 ((aO N (a * b)).map u6) true false))[j]? = h[j]?:=fun j hj=>by rw [List.getElem?_set_ne (Ne.symm hj)]
   exact hq _ _ (by simp [hl]) (hv.upd gs os) os (fun t ht=>RdN.new ht gs hm)
  have fin:∀ (A' B':Nat) (o' p':V) (h':Hp),A' * B' ^ (n / 2)=R->0 < A'->0 < B'->h'.length=3->NV h'->RdN 2 h' o' (dig Z A')->RdN 1 h' p' (dig Z B')->rl (lp (iu (CX Y)) [] h0 [o',p',I ((n:Int) / 2)] h') k .mk:=by
   intro A' B' o' p' h' e1 e2 e3 e4 e5 e6 e7;rw [show ((n:Int) / 2)=((n / 2:Nat):Int) by omega];exact ih (n / 2) hn2 A' B' o' p' h' R e1 e2 e3 hlim (by omega) e4 e5 e6 e7 hk h0 hl0
  have hdm:=X6 n 2;simp (disch:=first|omega|simp<;>omega|fail)[iu,hpos];refine bC ?_;simp (disch:=first|omega|simp<;>omega|fail)[and1];by_cases hod:(n:Int) % 2=1
  ·have hod':n % 2=1:=by omega
   have eR:A * Bv * (Bv * Bv) ^ (n / 2)=R:=by
    rw [<- hR]
    conv=>rhs;rw [<- hdm,hod',Yz,Nat.pow_mul,Nat.pow_one]
    rw [Nat.pow_two,Nat.mul_assoc,Zy Bv]
   refine bC ?_;simp (disch:=first|omega|simp<;>omega|fail)[hod];refine j4 (times h o p A Bv 1 hlen hnv (by omega) ro.now rp.now dA dB _ fun o' h' l1 v1 s1 r1=>?_);have rp1:=rp.step (l1.trans hlen.symm) s1;have ro1:=r1 2 (by omega);simp (disch:=first|omega|simp<;>omega|fail)[];refine bC ?_;by_cases h1:(n:Int) > 1
   ·simp (disch:=first|omega|simp<;>omega|fail)[h1];refine j4 (times h' p p Bv Bv 2 l1 v1 (by omega) rp1.now rp1.now dB dB _ fun p' h'' l2 v2 s2 r2=>?_);have ro2:=ro1.step (l2.trans l1.symm) s2;simp (disch:=first|omega|simp<;>omega|fail)[sh];exact fin _ _ o' p' h'' eR (Yu hA hB) (Yu hB hB) l2 v2 ro2 (r2 1 (by omega))
   ·have hn1:n=1:=by omega
    simp (disch:=first|omega|simp<;>omega|fail)[h1,sh];refine fin (A * Bv) Bv o' p h' ?_ (Yu hA hB) hB l1 v1 ro1 rp1;rw [<- eR];subst hn1;simp
  ·have hod':n % 2=0:=by omega
   have eR:A * (Bv * Bv) ^ (n / 2)=R:=by
    rw [<- hR]
    conv=>rhs;rw [<- hdm,hod',Nat.add_zero,Nat.pow_mul]
    rw [Nat.pow_two]
   refine bC ?_;simp (disch:=first|omega|simp<;>omega|fail)[hod];refine bC ?_;have h1:(n:Int) > 1:=by omega
   simp (disch:=first|omega|simp<;>omega|fail)[h1];refine j4 (times h p p Bv Bv 2 hlen hnv (by omega) rp.now rp.now dB dB _ fun p' h'' l2 v2 s2 r2=>?_);have ro2:=ro.step (l2.trans hlen.symm) s2;simp (disch:=first|omega|simp<;>omega|fail)[sh];exact fin _ _ o p' h'' eR hA (Yu hB hB) l2 v2 ro2 (r2 1 (by omega))
theorem Ib {n:Nat} (h:n<18446744073709551616):CP Y F.gZ [.d (.int .u64 n)] (I (aY n)):=by
 refine wG ?_;simp (disch:=first|omega|simp<;>omega|fail)[gZ];refine cd (yD h) ?_;simp (disch:=first|omega|simp<;>omega|fail)[] <;> exact bH rfl
theorem rK:aa 2=[50]:=by decide +kernel
theorem dy:aa 1=[49]:=by decide +kernel
theorem Nh:CP Y F.iL [S [50]] (I 2):=by
 refine zc ?_;have h:=uZ (n:=2) (by omega);rw [rK] at h;have h2:=yD (n:=2) (by omega);rw [show aY 2=2 by decide +kernel] at h2;simp (disch:=first|omega|simp<;>omega|fail)[iL];refine cd h ?_;simp (disch:=first|omega|simp<;>omega|fail)[];refine cd h2 ?_;exact bH rfl
theorem Kq {n K:Nat} (h:n / 3+1<=K):2 ^ n<10 ^ K:=by
 have h1:2 ^ n=8 ^ (n / 3)*2 ^ (n % 3):=by
  rw [show (8:Nat)=2 ^ 3 from rfl,<- Nat.pow_mul,<- Yz,X6]
 have h2:8 ^ (n / 3)<=10 ^ (n / 3):=Nat.pow_le_pow_left (by decide) _
 have h3:2 ^ (n % 3)<=4:=by
  have:n % 3<3:=Y8 _ (by decide);exact Z3 (Z5 (by decide) (show n % 3<=2 by omega)) (by decide)
 have h4:10 ^ (n / 3+1)<=10 ^ K:=Z5 (by decide) h;have h5:=Zs h2 h3;rw [Nat.pow_succ] at h4;have h6:=Yf (n:=n / 3) (show 0<10 by decide);omega
theorem Oe {n K:Nat} (h:n / 3+1<=K) (hK:0<K):ndg (2 ^ n)<=K:=a6 (Kq h) hK
theorem Sf {n K:Nat} (h:n / 3+1<=K):2 ^ n<Z ^ K:=Z2 (Kq h) (Nat.pow_le_pow_left (by decide) _)
theorem w8 {n:Nat} (hn:n<=4000):2 ^ n<Z ^ 2000∧ndg (2 ^ n)<=2000:=
 ⟨Sf (K:=2000) (by omega),Oe (K:=2000) (by omega) (by omega)⟩
theorem J4 {n:Nat} (hn:n<=4000):CP Y F.fT [S [50],I n] (.tup [S (aa (2 ^ n)),I 0]):=by
 refine wQ ?_;by_cases h0:n=0
 ·subst h0;rw [Nat.pow_zero,dy];simp (disch:=first|omega|simp<;>omega|fail)[fT];exact ai rfl rfl
 have g1:¬ (n:Int)=0:=by omega
 have g2:¬ (n:Int)<0:=by omega
 have g3:¬ (n:Int) > 66439:=by omega
 have n1:¬ ([50]:List UInt8)=[49]:=by decide
 have n2:¬ ([50]:List UInt8)=[48]:=by decide
 have ct:=nZ (h:=[(0,.none),(0,.none),(0,.none)]) rfl (n:=2) (cap:=1) (by decide +kernel) (by decide +kernel);rw [rK] at ct;obtain ⟨p1,p2⟩:=w8 hn;have hli:∀ h:Hp,dk 1 [D.int .u64 0] [(0,V.d (D.int .u64 1))] h=some ([u6 1],h):=fun h=>by simp [dk,fY,iz,toD,u6]
 simp (disch:=first|omega|simp<;>omega|fail)[fT,g1,g2,n1,n2];refine cd Nh ?_;simp (disch:=first|omega|simp<;>omega|fail)[g3,hli];refine j4 (gE (e:=0) (b:=.none) ct rfl ?_);rw [List.length_map,bJ];simp (disch:=first|omega|simp<;>omega|fail)[]
 have nv:NV [(1,.data 1 ((aO 1 2).map u6) true false),(0,.none),(0,.none)]:=by
  intro j x hj b';rcases Wx.2 ⟨j,hj⟩ with hm;simp only [Zt,Zb,or_false] at hm;rcases hm with rfl | rfl | rfl <;> rfl
 refine lo (Lm _ n 1 2 (lst u6 [1]) _ [(1,.data 1 ((aO 1 2).map u6) true false),(0,.none),(0,.none)] (2 ^ n) (by rw [Xs]) (by decide) (by decide) p1 (by omega) rfl nv ?_ ?_ (fun o' h' h2 hl hr hv=>?_) _ rfl)
 ·intro h' _ _;rw [show dig Z 1=[1] by decide +kernel];exact ⟨IT h' [1],h',xQ ..⟩
 ·exact RdN.new (s:=1) (t:=0) (by decide) rfl (by decide)
 ·have hl1:¬ (ndg (2 ^ n):Int) > 20000:=by omega
  have lt:=iY (2 ^ n);have tx:=rq (n:=2 ^ n) (Ze (fG p1) (by decide));generalize 2 ^ n=m at *;simp (disch:=first|omega|simp<;>omega|fail)[];refine cdz (by simp only [ae,hr];rfl) tx ?_;rw [show fv (S (aa m))=true from rfl,if_pos rfl];simp (disch:=first|omega|simp<;>omega|fail)[lt,hl1];exact ai rfl rfl
theorem ve {n:Nat} (hn:n<=4000):CP Y F.gJ [S [50],I n] (.tup [S (aa (2 ^ n)),I 0]):=by
 refine zD ?_;have sp:=mN 2;rw [rK] at sp;have g2:¬ (n:Int)<0:=by omega
 have g3:¬ (n:Int) > 4000:=by omega
 obtain ⟨p1,p2⟩:=w8 hn;have q:((4000:Int).tdiv 1)=4000:=by decide
 simp (disch:=first|omega|simp<;>omega|fail)[gJ,g2];refine cd sp ?_;simp (disch:=first|omega|simp<;>omega|fail)[g3,q];refine cd (J4 hn) ?_;simp (disch:=first|omega|simp<;>omega|fail)[];refine cd (L8 _) ?_;exact ai rfl rfl
def dgF (unit two:Nat):Nat->Nat->Nat->Nat->Option Nat
 | 0,_,_,out=>some out
 | r+1,low,high,out=>
  cond (Nat.ble two (low*low / unit)) (dgF unit two r (low*low / unit / 2) ((high*high / unit+1) / 2+1) (out+out+1))
   (cond (Nat.ble two (high*high / unit+1)) none (dgF unit two r (low*low / unit) (high*high / unit+1) (out+out)))
def vE (p n more:Nat):Option Nat:=dgF (2 ^ more) (2 ^ more+2 ^ more) n (p*2 ^ (more-(aY p-1))) (p*2 ^ (more-(aY p-1))) (aY p-1)
def dgV:Option Nat->V
 | some v=>.tup [S (aa v),B true]
 | none=>.tup [S [],B false]
theorem oi {a b:Nat} (ha:ndg a<999999) (hb:ndg b<999999):CP Y F.bM [S (aa a),S (aa b)] (S (aa (a+b))):=by
 have:=qt (z:=(a:Int)) (w:=(b:Int)) (by simpa using ha) (by simpa using hb)
 rwa [bW,bW,<- Int.natCast_add,bW] at this
theorem qp {a b:Nat} (ha:ndg a<400000) (hb:ndg b<400000):CP Y F.ax [S (aa a),S (aa b)] (S (aa (a*b))):=by
 have:=og (z:=(a:Int)) (w:=(b:Int)) (by simpa using ha) (by simpa using hb)
 rwa [bW,bW,<- Int.natCast_mul,bW] at this
theorem oh {a b:Nat} (h0:0<b) (ha:ndg a<900000) (hb:ndg b<900000):CP Y F.aH [S (aa a),S (aa b)] (.tup [S (aa (a / b)),S (aa (a % b)),I 0]):=by
 have:=oU (z:=(a:Int)) h0 (by simpa using ha) hb
 rwa [bW,<- Int.natCast_ediv,<- Int.natCast_emod,bW,bW] at this
theorem nJ {a b:Nat}:ndg (a*b)<=ndg a+ndg b:=by
 have h3:a*b<10 ^ (ndg a+ndg b):=by rw [Yz];exact Yo (bP a) (bP b)
 exact a6 h3 (by have:=iE a;omega)
theorem MY {a b:Nat}:decide (0<=Big.cmp a b)=Nat.ble b a:=by
 rw [Yw,Nat.ble_eq,decide_eq_true_eq];rcases Nat.lt_trichotomy a b with h | h | h
 ·rw [zk h];omega
 ·subst h;rw [cmp_eq];omega
 ·rw [zm h];omega
theorem EE {n k:Nat} (h:ndg n<=k):ndg (n+n+1)<=k+1:=by
 have h1:n<10 ^ k:=Z2 (bP n) (Z5 (by decide) h);exact a6 (by rw [Nat.pow_succ];omega) (by omega)
theorem wi {unit two N W:Nat} (hu:2<=unit) (htwo:two=unit+unit) (hW:ndg two<=W) (hW2:W<100000) (hN:N<100000) (k:KL):∀ (r i low high out:Nat),i+r=N->low<=high->high<two->ndg out<=W+i ->
  (∀ v,dgF unit two r low high out=some v->ndg v<=W+N->k (.exit 0) [S (aa v)] [])->(dgF unit two r low high out=none->k .ret [S [],B false] []) ->
  lp (kL (CX Y) (S (aa unit)) (S (aa two)) (I N)) [] [] [S (aa low),S (aa high),S (aa out),I i] [] k
 | 0,i,low,high,out,hi,hlh,hht,ho,h0,h1=>by
  have hiN:¬ (i:Int)<(N:Int):=by omega
  refine aj ?_;simp (disch:=first|omega|simp<;>omega|fail)[kL,hiN];exact h0 out rfl (by omega)
 | r+1,i,low,high,out,hi,hlh,hht,ho,h0,h1=>by
  have hiN:(i:Int)<(N:Int):=by omega
  have ih:=wi hu htwo hW hW2 hN k r (i+1);have u1:ndg unit<=W:=Z3 (cC (by omega)) hW;have u2:ndg low<=W:=Z3 (cC (by omega)) hW;have u3:ndg high<=W:=Z3 (cC (by omega)) hW;have m1:=qp (a:=low) (b:=low) (by omega) (by omega);have m2:=qp (a:=high) (b:=high) (by omega) (by omega)
  have w1:ndg (low*low)<=W+W:=Z3 nJ (by omega);have w2:ndg (high*high)<=W+W:=Z3 nJ (by omega);have d1:=oh (a:=low*low) (b:=unit) (by omega) (by omega) (by omega);have d2:=oh (a:=high*high) (b:=unit) (by omega) (by omega) (by omega);have lowle:low*low / unit<=high*high / unit:=Nat.div_le_div_right (Zs hlh hlh)
  have hi4:high*high / unit+4<=4*unit:=by
   have e1:high*high<=(2*unit-1)*(2*unit-1):=Zs (by omega) (by omega)
   have e2:(2*unit-1)*(2*unit-1)+4*unit=4*unit*unit+1:=by
    obtain ⟨x,hx⟩:∃ x,unit=x+1:=⟨unit-1,by omega⟩;subst hx;rw [show 2*(x+1)-1=2*x+1 by omega];simp only [Nat.add_mul,Zq,Yl,Xs,Nat.mul_assoc,Y4 x 2];omega
   have e3:high*high<(4*unit-3)*unit:=by
    rw [Nat.sub_mul];have:4*unit*unit≥3*unit:=Z1 _ (by omega);omega
   have:=(Xj (by omega)).2 e3;omega
  have eqF:dgF unit two (r+1) low high out=cond (Nat.ble two (low*low / unit)) (dgF unit two r (low*low / unit / 2) ((high*high / unit+1) / 2+1) (out+out+1))
   (cond (Nat.ble two (high*high / unit+1)) none (dgF unit two r (low*low / unit) (high*high / unit+1) (out+out))):=rfl
  rw [eqF] at h0 h1;generalize low*low / unit=L1 at *;generalize high*high / unit=H0 at *;have t2:ndg (two+two)<=W+1:=nK hW hW;have v1:ndg L1<=W+1:=Z3 (cC (by omega)) t2;have v2:ndg H0<=W+1:=Z3 (cC (by omega)) t2;have v3:ndg (H0+1)<=W+1:=Z3 (cC (by omega)) t2;have a1:=oi (a:=H0) (b:=1) (by omega) (by rw [tU];omega)
  rw [dy] at a1;have a2:=oi (a:=out) (b:=out) (by omega) (by omega);have vo:ndg (out+out)<=W+i+1:=nK ho ho;have a3:=oi (a:=out+out) (b:=1) (by omega) (by rw [tU];omega);rw [dy] at a3;have c1:=Di (a:=L1) (b:=two) (by omega) (by omega);have c2:=Di (a:=H0+1) (b:=two) (by omega) (by omega);have g1:=MY (a:=L1) (b:=two)
  have g2:=MY (a:=H0+1) (b:=two);have d3:=oh (a:=L1) (b:=2) (by omega) (by omega) (by rw [show ndg 2=1 by decide +kernel];omega);have d4:=oh (a:=H0+1) (b:=2) (by omega) (by omega) (by rw [show ndg 2=1 by decide +kernel];omega);rw [rK] at d3 d4;have v4:ndg ((H0+1) / 2)<=W+1:=Z3 (cC (by omega)) t2
  have a4:=oi (a:=(H0+1) / 2) (b:=1) (by omega) (by rw [tU];omega);rw [dy] at a4;generalize Big.cmp L1 two=C1 at *;generalize Big.cmp (H0+1) two=C2 at *;refine aj ?_;simp (disch:=first|omega|simp<;>omega|fail)[kL,hiN];refine bC ?_;simp (disch:=first|omega|simp<;>omega|fail)[];refine cd m1 ?_;simp (disch:=first|omega|simp<;>omega|fail)[];refine cd d1 ?_
  simp (disch:=first|omega|simp<;>omega|fail)[];refine cd m2 ?_;simp (disch:=first|omega|simp<;>omega|fail)[];refine cd d2 ?_;simp (disch:=first|omega|simp<;>omega|fail)[];refine cd a1 ?_;simp (disch:=first|omega|simp<;>omega|fail)[];refine cd a2 ?_;simp (disch:=first|omega|simp<;>omega|fail)[];refine bC ?_;simp (disch:=first|omega|simp<;>omega|fail)[];refine cd c1 ?_
  simp (disch:=first|omega|simp<;>omega|fail)[];refine bC ?_;cases q1:Nat.ble two L1 with
  | true=>
   rw [q1] at g1 h0 h1;simp only [cond_true] at h0 h1;have g1':0<=C1:=by simpa using g1
   have b1:two<=L1:=Nat.le_of_ble_eq_true q1;simp (disch:=first|omega|simp<;>omega|fail)[g1'];refine cd a3 ?_;simp (disch:=first|omega|simp<;>omega|fail)[];refine cd d3 ?_;simp (disch:=first|omega|simp<;>omega|fail)[];refine cd d4 ?_;simp (disch:=first|omega|simp<;>omega|fail)[];refine cd a4 ?_;simp (disch:=first|omega|simp<;>omega|fail)[]
   have:=ih (L1 / 2) ((H0+1) / 2+1) (out+out+1) (by omega) (by omega) (by omega) (EE ho) h0 h1;simpa using this
  | false=>
   rw [q1] at g1 h0 h1;simp only [cond_false] at h0 h1;have g1':¬ 0<=C1:=by simpa using g1
   simp (disch:=first|omega|simp<;>omega|fail)[g1'];refine cd c2 ?_;simp (disch:=first|omega|simp<;>omega|fail)[];cases q2:Nat.ble two (H0+1) with
   | true=>
    rw [q2] at g2 h1;have g2':0<=C2:=by simpa using g2
    simp (disch:=first|omega|simp<;>omega|fail)[g2'];exact h1 rfl
   | false=>
    rw [q2] at g2 h0 h1;simp only [cond_false] at h0 h1;have g2':¬ 0<=C2:=by simpa using g2
    have b2:¬ two<=H0+1:=fun h=>by rw [Nat.ble_eq_true_of_le h] at q2;cases q2
    simp (disch:=first|omega|simp<;>omega|fail)[g2'];have:=ih L1 (H0+1) (out+out) (by omega) (by omega) (by omega) (by omega) h0 h1;simpa using this
theorem JA (v:Nat) (h:Hp):out (dgV (some v)) (.tup [S (aa v),B true]) h:=ai rfl rfl
theorem JB (h:Hp):out (dgV none) (.tup [S [],B false]) h:=ai rfl rfl
theorem GX {p n more:Nat} (hp:2<=p) (hp2:p<1000000) (hm1:30<=more) (hm:more<=4000) (hn:n<=4000):CP Y F.size_digits [I p,I n,I more] (dgV (vE p n more)):=by
 refine zK ?_;obtain ⟨hk0,hpk,hk1⟩:=kR (n:=p) (by omega)
 have hk2:aY p<=20:=by
  rcases Zo 20 (aY p) with h | h
  ·have:2 ^ 20<=2 ^ (aY p-1):=Z5 (by decide) (by omega);omega
  ·exact h
 obtain ⟨kk,hkk⟩:∃ kk,kk=aY p-1:=⟨_,rfl⟩;obtain ⟨mk,hmk⟩:∃ mk,mk=more-kk:=⟨_,rfl⟩;have e1:((aY p:Nat):Int)-1=(kk:Int):=by omega
 have e2:(more:Int)-(kk:Int)=(mk:Int):=by omega
 have hcv:IntKind.wrap .u64 (p:Int)=(p:Int):=FR (by omega) (by omega);have lb:=Ib (n:=p) (by omega);have pw:=ve hm;have pw2:=ve (n:=mk) (by omega);have b1:=(w8 hm).2;have b2:=(w8 (n:=mk) (by omega)).2;have ad:=oi (a:=2 ^ more) (b:=2 ^ more) (by omega) (by omega);have op:=Gv (n:=p) (by omega);have ok:=Gv (n:=kk) (by omega)
 have np:ndg p<=6:=a6 (by omega) (by decide);have nk:ndg kk<=2:=a6 (by omega) (by decide);have ml:=qp (a:=p) (b:=2 ^ mk) (by omega) (by omega);have b3:ndg (2 ^ more+2 ^ more)<=2000+1:=nK b1 b1
 have hlt:p*2 ^ mk<2 ^ more+2 ^ more:=by
  have h1:p*2 ^ mk<2 ^ aY p*2 ^ mk:=(Nat.mul_lt_mul_right (Yf (by decide))).2 hpk;rw [<- Yz,show aY p+mk=more+1 by omega,Nat.pow_succ] at h1;omega
 have hu:2<=2 ^ more:=by
  have:2 ^ 1<=2 ^ more:=Z5 (by decide) (by omega);omega
 have eF:vE p n more=dgF (2 ^ more) (2 ^ more+2 ^ more) n (p*2 ^ mk) (p*2 ^ mk) kk:=by
  unfold vE;rw [<- hkk,<- hmk]
 rw [eF];generalize 2 ^ more=unit at *;generalize 2 ^ mk=pm at *;generalize p*pm=low at *;simp (disch:=first|omega|simp<;>omega|fail)[size_digits,hcv];refine cd lb ?_;simp (disch:=first|omega|simp<;>omega|fail)[e1];refine cd pw ?_;simp (disch:=first|omega|simp<;>omega|fail)[];refine cd ad ?_;simp (disch:=first|omega|simp<;>omega|fail)[e2];refine cd pw2 ?_
 simp (disch:=first|omega|simp<;>omega|fail)[];refine cd op ?_;simp (disch:=first|omega|simp<;>omega|fail)[];refine cd ml ?_;simp (disch:=first|omega|simp<;>omega|fail)[];refine cd ok ?_;simp (disch:=first|omega|simp<;>omega|fail)[];refine lo (wi hu rfl (W:=2001) b3 (by omega) (N:=n) (by omega) _ n 0 low low kk (by omega) (Z7 _) hlt (by omega) (fun v hv _=>?_) (fun hv=>?_))
 ·rw [hv];simp (disch:=first|omega|simp<;>omega|fail)[];exact JA v _
 ·rw [hv];simp (disch:=first|omega|simp<;>omega|fail)[];exact JB _
def Cj (p n:Nat):Option Nat:=if p=2 then some (2 ^ n) else vE p n (n+64)
theorem QD {p n v:Nat} (hp:2<=p) (hp2:p<1000000) (hn:n<=3900) (hv:Cj p n=some v):CP Y F.m5 [I p,I n] (S (aa v)):=by
 refine F8 ?_;unfold Cj at hv;by_cases h2:p=2
 ·rw [if_pos h2] at hv;simp only [Z9] at hv;have e:((p:Int)=2):=by omega
  have pw:=ve (n:=n) (by omega);rw [hv] at pw;simp (disch:=first|omega|simp<;>omega|fail)[m5,e];refine cd pw ?_;simp (disch:=first|omega|simp<;>omega|fail)[];exact cT rfl
 ·rw [if_neg h2] at hv;have e:¬ ((p:Int)=2):=by omega
  have dg:=GX (p:=p) (n:=n) (more:=n+64) hp hp2 (by omega) (by omega) (by omega);rw [hv] at dg;obtain ⟨m,hm⟩:∃ m,m=n+64:=⟨_,rfl⟩;rw [<- hm] at dg;have e3:(n:Int)+64=(m:Int):=by omega
  simp (disch:=first|omega|simp<;>omega|fail)[m5,e,e3];refine lo (aj ?_);simp (disch:=first|omega|simp<;>omega|fail)[vT];refine cd dg ?_;simp (disch:=first|omega|simp<;>omega|fail)[dgV];exact cT rfl
end Go.Vm
