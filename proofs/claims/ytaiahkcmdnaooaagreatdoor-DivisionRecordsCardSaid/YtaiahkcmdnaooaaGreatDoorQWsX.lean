/- Signed integers as texts: small ones read, signs, negatives. -/
import Derived.Test.YtaiahkcmdnaooaaGreatDoorQCkBits
import Derived.Test.YtaiahkcmdnaooaaGreatDoorQCkShift
import Derived.Test.YtaiahkcmdnaooaaGreatDoorQT
import Derived.Test.YtaiahkcmdnaooaaGreatDoorQTSmB
set_option linter.unusedVariables false
namespace Go.Vm
open Go Go.Am Go.Big
theorem M8 {n w:Nat} (h1:1<=w) (h2:w<=17) (hn:n < 10 ^ w):CP Y F.eN [S (45 :: cl n w)] (.tup [I (-(n:Int)),.d (.pl .nilIface)]):=by
 refine oH ?_;have hl:=yY w n;have hlt:=xk w n;have hh:=yF w n hn;have he:=MB n w;have hD:=Cp w n;have hn17:n < 10 ^ 17:=Z2 hn (Z3 (by decide) h2);simp only [Nat.reducePow] at hn17;generalize cl n w=L at *;generalize vC n w=l at *;have hlen:L.length=w:=by rw [hD];simpa using hl
 have hi:ixS (S (45 :: L)) (.d (.int .i64 0))=some (.d (.int .u8 45)):=by simp [ixS]
 have hlw:jq (S (45 :: L))=some (I (w+1:Nat)):=by rw [Cc];simp [hlen]
 have hsl:slS (S (45 :: L)) (some (.d (.int .i64 1))) none=some (S L):=by
  have:(1:Int)<=(L.length:Int)+1:=by omega
  simp [slS,boV,this]
 have hl2:jq (S L)=some (I w):=by rw [Cc,hlen]
 simp (disch:=first|omega|simp<;>omega|fail)[eN,hlw,hi]
 have hcv:∀ (k:V->Hp->Prop),cvB (S L) [] k=k (lst f8 l) []:=by
  intro k
  have:V.d (.sl L.length (L.map fun b=>.int .u8 b.toNat))=lst f8 l:=by
   unfold lst;rw [hlen,hl,<- he];rfl
  simp only [cvB,this]
 refine eC (l:=[S L]) (h:=[]) (fun q=>?_) ?_
 ·simp (disch:=first|omega|simp<;>omega|fail)[hsl,hl2]
 show cvB (S L) [] _
 rw [hcv];simp (disch:=first|omega|simp<;>omega|fail)[];refine lo (CG _ _ rfl l [] 0 (by simp;omega) hlt (by simp) ?_);simp (disch:=first|omega|simp<;>omega|fail)[hi,hh];refine eC (l:=[I (-(n:Int))]) (h:=[]) (fun q=>?_) ?_
 ·simp (disch:=first|omega|simp<;>omega|fail)[]
 exact ⟨[],by simp [aB,ae,norm]⟩
theorem M7 {n w:Nat} (h1:1<=w) (h2:w<=17) (hn:n < 10 ^ w):CP Y F.eE [S (45 :: cl n w)] (.tup [I (-(n:Int)),.d (.pl .nilIface)]):=by
 refine qp ?_;simp (disch:=first|omega|simp<;>omega|fail)[eE];refine cd (M8 h1 h2 hn) ?_;simp (disch:=first|omega|simp<;>omega|fail)[BZ];exact ⟨[],by simp [aB,ae,norm]⟩
def sdg (z:Int):Nat:=ndg z.natAbs+if z < 0 then 1 else 0
theorem EG (z:Int):jq (S (itoa z))=some (I (sdg z)):=by
 rw [Cc];unfold itoa sdg;split
 ·simp [aa,aJ]
 ·simp [aa,aJ]
theorem FD {z:Int} (h:sdg z<=18):CP Y F.eE [S (itoa z)] (.tup [I z,.d (.pl .nilIface)]):=by
 unfold sdg at h;by_cases hz:z < 0
 ·rw [if_pos hz] at h;have:=M7 (n:=z.natAbs) (w:=ndg z.natAbs) (ig _) (by omega) (bR _);rw [show (-(z.natAbs:Int))=z by omega] at this;unfold itoa;rw [if_pos hz];exact this
 ·rw [if_neg hz] at h;have:=CF (n:=z.natAbs) (w:=ndg z.natAbs) (ig _) (by omega) (bR _);rw [show ((z.natAbs:Nat):Int)=z by omega] at this;unfold itoa;rw [if_neg hz];exact this
theorem nj (z:Int) (w:Nat) (hw:w<=18):CP Y F.aW [S (itoa z),I w] (if sdg z<=w then .tup [I z,B true] else .tup [I 0,B false]):=by
 refine mS ?_;have la:=EG z;by_cases h:(w:Int) < sdg z
 ·rw [if_neg (by omega)];simp (disch:=first|omega|simp<;>omega|fail)[aW,la,h];exact aj rfl rfl
 ·rw [if_pos (by omega)];have ap:=FD (z:=z) (by omega);have en:biF .eql (.d (.pl .nilIface)) (.d (.pl .nilIface))=some (.d (.bool true)):=rfl;simp (disch:=first|omega|simp<;>omega|fail)[aW,la,h];refine cd (args:=[S (itoa z)]) ap ?_;simp (disch:=first|omega|simp<;>omega|fail)[en];exact aj rfl rfl
theorem yv (z:Int):CP Y F.dW [S (itoa z)] (if sdg z<=9 then .tup [I z,B true] else .tup [I 0,B false]):=by
 refine ul ?_;have la:=EG z;by_cases h:(9:Int) < sdg z
 ·rw [if_neg (by omega)];simp (disch:=first|omega|simp<;>omega|fail)[dW,la,h];exact aj rfl rfl
 ·rw [if_pos (by omega)];have ap:=FD (z:=z) (by omega);have en:biF .eql (.d (.pl .nilIface)) (.d (.pl .nilIface))=some (.d (.bool true)):=rfl;simp (disch:=first|omega|simp<;>omega|fail)[dW,la,h];refine cd (args:=[S (itoa z)]) ap ?_;simp (disch:=first|omega|simp<;>omega|fail)[en];exact aj rfl rfl
theorem uf (z:Int):rdN (itoa z)=decide (z < 0):=by
 unfold itoa;split
 ·rename_i h;simp [rdN,h]
 ·rename_i h;have:=lX z.natAbs;unfold rdN;rw [decide_eq_false this,decide_eq_false h]
theorem mN (z:Int):CP Y F.aF [S (itoa z)] (.tup [B (decide (z < 0)),S (aa z.natAbs)]):=by
 have h:=qq (itoa z);rw [uf,oF] at h;exact h
theorem lH {a b:Nat} (h:aa a=aa b):a=b:=by
 have:=congrArg (cV 0) h
 rwa [b9,b9] at this
theorem ug {a b:Int} (h:itoa a=itoa b):a=b:=by
 have h1:=congrArg rdT h;have h2:=congrArg rdN h;rw [oF,oF] at h1;rw [uf,uf] at h2;have h3:=lH h1;have h4:(a < 0)↔(b < 0):=by simpa using h2
 omega
theorem iY {n:Nat}:aa n=[48]↔n=0:=by
 constructor
 ·intro h;exact lH (a:=n) (b:=0) (h.trans du.symm)
 ·rintro rfl;exact du
def sg (b:Bool) (n:Nat):Int:=if b then -(n:Int) else n
theorem jB (b:Bool) {n:Nat} (hn9:ndg n < 1000000):CP Y F.bC [B b,S (aa n)] (S (itoa (sg b n))):=by
 refine tw ?_;cases b with
 | false=>
  have:itoa (sg false n)=aa n:=by simp [sg,itoa]
  rw [this];simp (disch:=first|omega|simp<;>omega|fail)[bC] <;> exact cU rfl
 | true=>
  by_cases hn:n=0
  ·subst hn;have e0:itoa (sg true 0)=[48]:=du;simp (disch:=first|omega|simp<;>omega|fail)[bC,du] <;> exact cU e0.symm
  ·have h0:¬ aa n=[48]:=fun h=>hn (iY.1 h)
   have:itoa (sg true n)=45 :: aa n:=by
    unfold itoa sg;rw [if_pos rfl,if_pos (by omega)];simp
   rw [this];have hl:(aa n).length=ndg n:=aJ _ _;have ha:biS .add (.d (.str [45])) (S (aa n))=some (S (45 :: aa n)):=OX [45] (aa n) (by rw [hl];simp;omega);simp (disch:=first|omega|simp<;>omega|fail)[bC,h0,ha] <;> exact cU rfl
theorem rE {z:Int} (hz:ndg z.natAbs < 1000000):CP Y F.gG [S (itoa z)] (S (itoa (-z))):=by
 refine CV ?_;simp (disch:=first|omega|simp<;>omega|fail)[gG];refine cd (mN z) ?_;simp (disch:=first|omega|simp<;>omega|fail)[];have:=jB (!decide (z < 0)) hz
 have e:sg (!decide (z < 0)) z.natAbs = -z:=by
  unfold sg;by_cases h:z < 0
  ·simp [h];omega
  ·simp [h];omega
 rw [e] at this;refine cd this ?_;exact cU rfl
def bn (n:Nat):Nat:=(dig Z n).length
theorem xm {n:Nat}:bn n=ndg n / 9+1∨bn n+1=ndg n / 9+1:=by
 unfold bn;have h1:(dig Z n).length<=ndg n / 9+1:=(kS ag).2 (Z2 (bR n) (by rw [uM];exact Z3 (by decide) (by omega)))
 have h2:ndg n<=9 * (dig Z n).length∨n=0:=by
  rcases Zh n with h | h
  ·exact .inr h
  ·left;have h3:n < Z ^ (dig Z n).length:=(kS ag).1 (Z7 _);rw [uM] at h3;refine a6 h3 ?_;rcases Zh (dig Z n).length with h4 | h4
   ·rw [h4] at h3;simp at h3;omega
   ·omega
 rcases h2 with h2 | rfl
 ·omega
 ·have:ndg 0=1:=by decide +kernel
  rw [this];right;rfl
theorem B8 (n:Nat):n < Z ^ bn n:=(kS ag).1 (Z7 _)
theorem uo (n:Nat):aN (bn n) n=dig Z n:=by
 have:=jQ (B8 n)
 rwa [Zu (by rw [bK];exact Z7 _)] at this
theorem um {n c:Nat} (h:bn n+1=c):aN c n=dig Z n++[0]:=by
 rw [<- h,vr (B8 n),uo]
theorem ID {s t n c:Nat} {h:Hp} {q:V->Hp->Prop} {u:PU q} (hst:s≠t) (hg:h[s]? = some (1,.data 1 ((aN c n).map u6) true false)) (ht:h[t]? = some (0,.none)) (hL:bn n=c∨bn n+1=c) (hc:c < 1000000)
  (hq:∀ s' e' ex h',h'.length=h.length->h'[s']? = some (e',.data 1 ((dig Z n++[0]).map u6) ex false)->(s'=s∨s'=t)->(∀ j,j≠s'->h'[j]? = h[j]?)->q (.ref s' e' 0 (bn n+1) (bn n+1) (bn n+1)) h') :
  rh (apV false t 1 8 (.ref s 1 0 (bn n) c c) (.d (.sl 1 [u6 0])) h) q u:=by
 have hl:=aD hg;have hl2:=aD ht;rcases hL with hL | hL
 ·subst hL;rw [uo] at hg;refine IC hg ht rfl (by omega) ?_;exact hq t 1 false _ (by simp) (by simp [hl2]) (.inr rfl) (fun j hj=>by rw [List.getElem?_set_ne (Ne.symm hj)])
 ·rw [um hL] at hg;have hlen:(dig Z n).length=bn n:=rfl;refine G4 (x:=0) hg (by simp;omega) (by omega) ?_;rw [<- hL];refine hq s 1 true _ (by simp) ?_ (.inl rfl) (fun j hj=>by rw [List.getElem?_set_ne (Ne.symm hj)])
  have e1:(dig Z n++[0]).take (bn n)++[0]++(dig Z n++[0]).drop (bn n+1)=dig Z n++[0]:=by
   rw [<- hlen,Wg,Y9 (by simp),Yj]
  rw [e1];simp [hl]
theorem IA {s t n c k:Nat} {h:Hp} {q:V->Hp->Prop} {u:PU q} (hst:s≠t) (hg:h[s]? = some (1,.data 1 ((aN c n).map u6) true false)) (ht:h[t]? = some (0,.none)) (hL:bn n=c∨bn n+1=c) (hc:c+k < 1000000)
  (hq:∀ t1 s' h',h'.length=h.length->(s'=s∨s'=t)->(∀ j,j≠s'->h'[j]? = h[j]?)->(∃ (e':Nat) (l:List Nat) (ex:Bool),h'[s']? = some (e',.data 1 (l.map u6) ex false)) ->
   (∀ P:Hp->Prop,(∀ g,P g->g[s']? = h'[s']?)->RdS P t1 (dig Z n++List.replicate k 0))->q t1 h') :
  rh (apZ false t 1 8 [.int .u64 0] (.ref s 1 0 (bn n) c c) (I (k:Nat)) h) q u:=by
 have hl:=aD hg;have hl2:=aD ht;have hlen:(dig Z n).length=bn n:=rfl;unfold rh apZ;simp only;rw [if_pos ⟨by omega,by omega⟩];unfold apC;simp only [Int.toNat_natCast]
 have rdOf:∀ {s' e' len cap tot:Nat} {l:List Nat} {ex:Bool} {h':Hp},h'[s']? = some (e',.data 1 (l.map u6) ex false)->tot=l.length->len<=tot->l.take len=dig Z n++List.replicate k 0 ->
   ∀ P:Hp->Prop,(∀ g,P g->g[s']? = h'[s']?)->RdS P (.ref s' e' 0 len cap tot) (dig Z n++List.replicate k 0):=by
  intro s' e' len cap tot l ex h' hg' htot hle htk P hP;refine ⟨?_,fun g i hg2 hi=>?_⟩
  ·have:(dig Z n++List.replicate k 0).length=len:=by rw [<- htk,Zs];omega
   rw [this];rfl
  ·have:=(xt (h:=g) (cap:=cap) ((hP g hg2).trans hg') htot hle).2 [] i (by rw [htk];exact hi);rw [Yj,htk] at this;exact this
 by_cases hk:k=0
 ·rw [if_pos hk,if_pos (by omega)];subst hk;refine hq _ s h rfl (.inl rfl) (fun _ _=>rfl) ⟨_,_,_,hg⟩ ?_;refine rdOf hg (bK ..).symm (by omega) ?_;rw [List.replicate_zero,Yj];rcases hL with hL | hL
  ·rw [<- hL,uo,<- hlen,Xz]
  ·rw [um hL,<- hlen,Wg]
 ·rw [if_neg hk,NI];simp only [dL hg];rw [if_pos ⟨trivial,by simp [bK],by omega,by simp [bK],by simp⟩];by_cases hin:bn n+k<=c
  ·rw [if_pos hin];have hk1:k=1:=by omega
   subst hk1;have hL2:bn n+1=c:=by omega
   simp only [Bool.or_self,Zn,if_false,cJ]
   have e1:((aN c n).map u6).take (0+bn n * 1)++(List.replicate 1 0).map u6++((aN c n).map u6).drop (0+(bn n+1) * 1)=(dig Z n++[0]).map u6:=by
    rw [um hL2,Zk,Zk,Ym,Ym,<- hlen];simp []
   rw [e1];refine hq _ s _ (by simp) (.inl rfl) (fun j hj=>by rw [List.getElem?_set_ne (Ne.symm hj)]) ⟨1,dig Z n++[0],true,by simp [hl]⟩ ?_;refine rdOf (l:=dig Z n++[0]) (ex:=true) (by simp [hl]) (by simp;omega) (by omega) ?_;rw [Zu (by simp;omega)];rfl
  ·rw [if_neg hin,if_pos (by omega)];simp only [if_true,new,ht]
   have e1:(((aN c n).map u6).drop 0).take (bn n * 1)++(List.replicate k 0).map u6=(dig Z n++List.replicate k 0).map u6:=by
    rw [Y4,Ym,<- List.map_take,Wl];congr 2;rcases hL with hL | hL
    ·rw [<- hL,uo,<- hlen,Xz]
    ·rw [um hL,<- hlen,Wg]
   rw [e1];have e2:bn n * 1+((List.replicate k 0).map u6).length=bn n+k:=by simp
   rw [e2];refine hq _ t _ (by simp) (.inr rfl) (fun j hj=>by rw [List.getElem?_set_ne (Ne.symm hj)]) ⟨1,dig Z n++List.replicate k 0,false,by simp [hl2]⟩ ?_;refine rdOf (l:=dig Z n++List.replicate k 0) (ex:=false) (by simp [hl2]) (by simp;omega) (by omega) ?_;rw [Zu (by simp;omega)]
def NV (h:Hp):Prop:=∀ (j:Nat) (x:Nat × Bk),h[j]? = some x->∀ b,dE b x.2=true
theorem NV.all {h:Hp} (hn:NV h) (b:Nat):(h.all fun x=>dE b x.2)=true:=by
 rw [Zz];intro x hx;obtain ⟨j,hj⟩:=Wy.1 hx;exact hn j x hj b
theorem NV.upd {h h':Hp} (hn:NV h) {s e:Nat} {l:List Nat} {ex fr:Bool} (hs:h'[s]? = some (e,.data 1 (l.map u6) ex fr)) (ho:∀ j,j≠s->h'[j]? = h[j]?):NV h':=by
 intro j x hj b;by_cases e1:j=s
 ·subst e1;rw [hs] at hj;cases hj;rfl
 ·rw [ho j e1] at hj;exact hn j x hj b
theorem KH {α:Type} {l:List α} {i:Nat} {x:α} (h:l[i]? = some x):l.set i x=l:=by
 apply Xs;intro j;by_cases e:i=j
 ·subst e;rw [List.getElem?_set_self (aD h),h]
 ·rw [List.getElem?_set_ne e]
theorem Hq {h:Hp} {s e:Nat} {ex:Bool} {l:List Nat} (hs:h[s]? = some (e,.data 1 (l.map u6) ex false)):sP h s e ex l=h:=KH hs
theorem Av {h:Hp} {s e n m:Nat} {ex:Bool} {L:List Nat} {w:V} (hn:NV h) (hlt:s < h.length) (h3:L.length=n) (b1:val Z L=m) (b2:au Z L) (hm:n < 1000000) (kk:V->V) (hkk:∀ h':Hp,out w (kk (S (aa m))) h') {sl:Nat} :
  cai (CX Y).i (sP h s e ex L) (V.fn F.ah [] []) [.ref s e 0 n n n] sl fun v22 h=>
    cal (CX Y).p h (V.fn F.aC [] []) [v22] fun v23 h=>out w (kk v23) h:=by
 have nv:NV (sP h s e ex L):=hn.upd (m9 hlt) (fun j hj=>by unfold sP;rw [List.getElem?_set_ne (Ne.symm hj)]);have tr:=oo (h:=sP h s e ex L) (nv.all _) (s:=s) (e:=e) (ex:=ex) (fr:=false) (m9 hlt) h3.symm (len:=n) (cap:=n) (Z7 _) (by omega) (Z7 _);have ht:eQ (L.take n)=dig Z m:=by rw [Zu (by omega),<- b1,mI ag b2]
 rw [ht] at tr;refine kX tr ?_ (by simp);have lt:m < Z ^ n:=by rw [<- b1,<- h3];exact gF aR b2
 have hl:(dig Z m).length<=n:=(kS ag).2 lt;have sM:=qt (h:=sP h s e ex L) (s:=s) (e:=e) (ex:=ex) (fr:=false) (m9 hlt) h3.symm (len:=(dig Z m).length) (cap:=n) hl (Z7 _)
 have ht2:L.take (dig Z m).length=dig Z m:=by
  have e:eQ L=dig Z m:=by rw [<- ht,Zu (by omega)]
  obtain ⟨z,hz⟩:=Ap L;rw [e] at hz;rw [hz];exact Wg ..
 rw [ht2] at sM;refine cdz (u:=.mk) (by simp only [ae,sM];rfl) (qZ (n:=m) (by omega)) ?_;rw [show fu (S (aa m))=true from rfl,if_pos rfl];exact hkk _
theorem yZ {a b:Nat} (ha:ndg a < 1000000) (hb:ndg b < 1000000):CP Y F.fR [S (aa a),S (aa b)] (S (aa (a+b))):=by
 refine Ac ?_;have bo:=xo a b;by_cases h18:ndg a<=18∧ndg b<=18
 ·rw [if_pos h18] at bo;have g3:10 ^ ndg a<=10 ^ 18:=Z3 (by decide) h18.1;have g4:10 ^ ndg b<=10 ^ 18:=Z3 (by decide) h18.2;have b1:a < 1000000000000000000:=Z2 (bR a) g3;have b2:b < 1000000000000000000:=Z2 (bR b) g4;simp (disch:=first|omega|simp<;>omega|fail)[fR];refine cd bo ?_;obtain ⟨m,hm⟩:∃ m,a+b=m:=⟨_,rfl⟩
  have em:(a:Int)+(b:Int)=(m:Int):=by omega
  rw [hm];simp (disch:=first|omega|simp<;>omega|fail)[em];refine cd (vf (n:=m) (by omega)) ?_;exact cU rfl
 rw [if_neg h18] at bo;obtain ⟨ca,hca⟩:∃ ca,ca=ndg a / 9+1:=⟨_,rfl⟩;obtain ⟨cb,hcb⟩:∃ cb,cb=ndg b / 9+1:=⟨_,rfl⟩;have cA:=od (h:=[(0,.none),(0,.none),(0,.none),(0,.none),(0,.none),(0,.none)]) rfl (n:=a) (by omega) hca;have cB:=od (h:=[(1,.data 1 ((aN ca a).map u6) true false),(0,.none),(0,.none),(0,.none),(0,.none),(0,.none)]) rfl (n:=b) (by omega) hcb
 have LA:bn a=ca∨bn a+1=ca:=by rw [hca];exact xm
 have LB:bn b=cb∨bn b+1=cb:=by rw [hcb];exact xm
 have hli:∀ h:Hp,dt 1 [D.int .u64 0] [(0,V.d (D.int .u64 0))] h=some ([u6 0],h):=fun h=>by simp [dt,fW,iA,toD,u6]
 have main:∀ (p q cp cq sp sq:Nat) (h:Hp),p+q=a+b->bn q<=bn p->cp < 200000->cq < 200000->(bn p=cp∨bn p+1=cp)->(bn q=cq∨bn q+1=cq)->sp < 2->sq < 2->sp≠sq->h.length=6->NV h ->
   h[sp]? = some (1,.data 1 ((aN cp p).map u6) true false)->h[sq]? = some (1,.data 1 ((aN cq q).map u6) true false)->h[2]? = some (0,.none)->h[3]? = some (0,.none) ->
   apV false 2 1 8 (.ref sp 1 0 (bn p) cp cp) (.d (.sl 1 [u6 0])) h fun v15 h=>
   bnd (am v15) fun v16=>
   bnd (biI .sub v16 (.d (.int .i64 1))) fun v17=>
   bnd (am (.ref sq 1 0 (bn q) cq cq)) fun v18=>
   bnd (biI .sub v17 v18) fun v19=>
   apZ false 3 1 8 [.int .u64 0] (.ref sq 1 0 (bn q) cq cq) v19 h fun v20 h=>
   cai (CX Y).i h (.fn F.bI [] []) [v15,v20,(.d (.int .i64 0))] 4 fun v21 h=>
   cai (CX Y).i h (.fn F.ah [] []) [v15] 5 fun v22 h=>
   cal (CX Y).p h (.fn F.aC [] []) [v22] fun v23 h=>
   out (S (aa (a+b))) v23 h:=by
  intro p q cp cq sp sq h hpq hle hcp hcq LP LQ hsp hsq hne hlen hnv gp gq g2 g3;refine ID (u:=.mk) (t:=2) (by omega) gp g2 LP (by omega) fun s' e' ex h1 l1 gs' hs' o1=>?_
  obtain ⟨k,hk⟩:∃ k,k=bn p - bn q:=⟨_,rfl⟩;have e1:(bn p:Int)+1 - 1 - (bn q:Int)=(k:Int):=by omega
  have hr1:am (.ref s' e' 0 (bn p+1) (bn p+1) (bn p+1))=some (I (bn p+1:Nat)):=rfl;have hr2:am (.ref sq 1 0 (bn q) cq cq)=some (I (bn q:Nat)):=rfl
  have hb1:biI .sub (I ((bn p+1:Nat):Int)) (.d (.int .i64 1))=some (I (bn p)):=by
   rw [pD,show (((bn p+1:Nat):Int) - 1)=(bn p:Int) by omega,oh (by omega) (by omega)]
  have hb2:biI .sub (I (bn p:Int)) (I (bn q:Int))=some (I k):=by
   rw [pD,show ((bn p:Int) - (bn q:Int))=(k:Int) by omega,oh (by omega) (by omega)]
  simp only [hr1,hr2,hb1,hb2,bnd];have nv1:=hnv.upd gs' o1;have hqs:sq≠s':=by rcases hs' with rfl | rfl <;> omega
  have h3s:3≠s':=by rcases hs' with rfl | rfl <;> omega
  refine IA (u:=.mk) (t:=3) (by omega) ((o1 sq hqs).trans gq) ((o1 3 h3s).trans g3) LQ (by omega) fun t1 s2 h2 l2 hs2 o2 ⟨e2,l2',ex2,g2'⟩ rd=>?_
  have nv2:=nv1.upd g2' o2;have hss:s'≠s2:=by rcases hs2 with rfl | rfl <;> omega
  have gs2:h2[s']? = some (e',.data 1 ((dig Z p++[0]).map u6) ex false):=(o2 s' hss).trans gs';have lt2:s' < h2.length:=aD gs2;have hdl:(dig Z q++List.replicate k 0).length=bn p:=by simp only [Zm,Y3];show bn q+k=_;omega
  have sD:au Z (dig Z q++List.replicate k 0):=mP (bD ag q) (ln _);have vD:val Z (dig Z q++List.replicate k 0)=q:=by rw [kA,fp ag]
  have rdS:=rd (fun t=>∃ l,t=sP h2 s' e' ex l) (fun g ⟨l,hg⟩=>by rw [hg];unfold sP;rw [List.getElem?_set_ne hss]);obtain ⟨c1,c2,c3⟩:=M6 (n:=bn p) rfl hdl (bD ag p) sD (fp ag p) vD
  have bk:=FB (at_:=0) (tot:=bn p+1) (l:=dig Z p++[0]) (ex:=ex) (e:=e') (s:=s') (h:=h2) (nv2.all _) lt2 rdS sD (by rw [hdl];omega) (by omega) (by simp [bn]) (mP (bD ag p) (ln 1));rw [Hq gs2] at bk;refine kX bk ?_ (by simp);rw [hpq] at c1;exact Av nv2 lt2 c3 c1 c2 (by omega) (fun v=>v) (fun _=>cU rfl)
 simp (disch:=first|omega|simp<;>omega|fail)[fR];refine cd bo ?_;simp (disch:=first|omega|simp<;>omega|fail)[];refine jX (gE (e:=0) (b:=.none) cA rfl ?_);rw [List.length_map,bK];simp (disch:=first|omega|simp<;>omega|fail)[];refine jX (gE (e:=0) (b:=.none) cB rfl ?_);rw [List.length_map,bK]
 have nv:NV [(1,.data 1 ((aN ca a).map u6) true false),(1,.data 1 ((aN cb b).map u6) true false),(0,.none),(0,.none),(0,.none),(0,.none)]:=by
  intro j x hj b';rcases Wy.2 ⟨j,hj⟩ with hm;simp only [Zt,Zb,or_false] at hm;rcases hm with rfl | rfl | rfl | rfl | rfl | rfl <;> rfl
 by_cases g1:((dig Z a).length:Int) < ((dig Z b).length:Int)
 ·simp (disch:=first|omega|simp<;>omega|fail)[g1];refine bm ?_;simp (disch:=first|omega|simp<;>omega|fail)[hli];exact main b a cb ca 1 0 _ (by omega) (by unfold bn;omega) (by omega) (by omega) LB LA (by omega) (by omega) (by omega) rfl nv rfl rfl rfl rfl
 ·simp (disch:=first|omega|simp<;>omega|fail)[g1];refine bm ?_;simp (disch:=first|omega|simp<;>omega|fail)[hli];exact main a b ca cb 0 1 _ rfl (by unfold bn;omega) (by omega) (by omega) LA LB (by omega) (by omega) (by omega) rfl nv rfl rfl rfl rfl
theorem AP:∀ (s t:List UInt8) (c:Nat),s.length=t.length->s.all kv=true->t.all kv=true->Op.bytesLess s t=decide (cV c s < cV c t)
 | [],[],c,_,_,_=>by simp [Op.bytesLess]
 | x :: s,y :: t,c,hl,hs,ht=>by
  simp only [List.length_cons,Nat.add_right_cancel_iff] at hl;simp only [List.all_cons,Z8] at hs ht;have hx:=gP.1 hs.1;have hy:=gP.1 ht.1
  have key:∀ (s t:List UInt8) (u v:Nat),s.length=t.length->s.all kv=true->u < v->cV u s < cV v t:=by
   intro s t u v hl hs h;have h1:=oJ s u hs;have h2:=ui t v;rw [<- hl] at h2;have h3:(u+1) * 10 ^ s.length<=v * 10 ^ s.length:=Z1 _ h;omega
  rw [gn,gn];have ex:x < y↔x.toNat < y.toNat:=UInt8.lt_iff_toNat_lt;have ey:y < x↔y.toNat < x.toNat:=UInt8.lt_iff_toNat_lt;rcases Nat.lt_trichotomy x.toNat y.toNat with h | h | h
  ·have:=key s t (c * 10+(x.toNat - 48)) (c * 10+(y.toNat - 48)) hl hs.2 (by omega);rw [decide_eq_true this];simp [Op.bytesLess,ex.2 h]
  ·have e:x=y:=UInt8.toNat_inj.1 h;subst e;rw [<- AP s t _ hl hs.2 ht.2];simp [Op.bytesLess]
  ·have:=key t s (c * 10+(y.toNat - 48)) (c * 10+(x.toNat - 48)) hl.symm ht.2 (by omega);rw [decide_eq_false (by omega)];have h1:¬ x < y:=fun g=>by have:=ex.1 g;omega
   have h2:¬ x=y:=fun g=>by subst g;omega
   simp [Op.bytesLess,h1,h2]
theorem AS (n:Nat):(aa n).all kv=true:=oQ _ _
theorem AO {a b:Nat} (h:ndg a=ndg b):Op.bytesLess (aa a) (aa b)=decide (a < b):=by
 rw [AP (aa a) (aa b) 0 (by rw [aa,aa,aJ,aJ,h]) (AS _) (AS _),b9,b9]
theorem Lo {a b:Nat} (h:ndg a < ndg b):a < b:=by
 rcases Zo a b with g | g
 ·exact g
 ·have:=cE g;omega
theorem zb {a b:Nat} (h:a < b):Big.cmp a b = -1:=if_pos h
theorem zc {a b:Nat} (h:b < a):Big.cmp a b=1:=(if_neg (by omega)).trans (if_pos h)
theorem cmp_eq {a:Nat}:Big.cmp a a=0:=(if_neg (by omega)).trans (if_neg (by omega))
theorem rM {a b:Nat} (ha:ndg a < 1000000) (hb:ndg b < 1000000):CP Y F.bA [S (aa a),S (aa b)] (I (Big.cmp a b)):=by
 refine uD ?_;have la:=iX a;have lb:=iX b;by_cases hl:ndg a=ndg b
 ·have h1:=AO hl;have h2:=AO hl.symm;have e1:biS .lss (S (aa a)) (S (aa b))=some (.d (.bool (decide (a < b)))):=by rw [<- h1];rfl
  have e2:biS .gtr (S (aa a)) (S (aa b))=some (.d (.bool (decide (b < a)))):=by
   have h3:(aa a == aa b)=decide (a=b):=by
    rw [Yw];simp only [beq_iff_eq,decide_eq_true_eq];exact ⟨lH,fun h=>by rw [h]⟩
   have h4:decide (b < a) = !(decide (a < b) || decide (a=b)):=by
    rw [Yw];simp only [decide_eq_true_eq,Zc,Bool.or_eq_false_iff,decide_eq_false_iff_not];omega
   rw [h4,<- h1,<- h3];rfl
  rw [hl] at la;by_cases g1:a < b
  ·simp (disch:=first|omega|simp<;>omega|fail)[bA,la,lb,e1,g1];exact bG (zb g1).symm
  ·by_cases g2:b < a
   ·simp (disch:=first|omega|simp<;>omega|fail)[bA,la,lb,e1,e2,g1,g2];exact bG (zc g2).symm
   ·simp (disch:=first|omega|simp<;>omega|fail)[bA,la,lb,e1,e2,g1,g2];have:a=b:=by omega
    subst this;exact bG cmp_eq.symm
 ·have hne:¬ ((ndg a:Int)=(ndg b:Int)):=by omega
  rcases Zo (ndg a) (ndg b) with h | h
  ·have h3:=Lo h;have m1:mxI true [.d (.int .i64 (-1)),I ((ndg a:Int) - ndg b)]=some (I (-1)):=by simp [mxI,mx2];omega
   have m2:mxI false [.d (.int .i64 1),I (-1)]=some (I (-1)):=rfl;simp (disch:=first|omega|simp<;>omega|fail)[bA,la,lb,hne,m1,m2];exact bG (zb h3).symm
  ·have h3:b < a:=Lo (by omega);have m1:mxI true [.d (.int .i64 (-1)),I ((ndg a:Int) - ndg b)]=some (I ((ndg a:Int) - ndg b)):=by simp [mxI,mx2];omega
   have m2:mxI false [.d (.int .i64 1),I ((ndg a:Int) - ndg b)]=some (I 1):=by simp [mxI,mx2];omega
   simp (disch:=first|omega|simp<;>omega|fail)[bA,la,lb,hne,m1,m2];exact bG (zc h3).symm
theorem Eh:1 < Z:=ag
theorem Ki {A D:List Nat} {a b n:Nat} (hA:A.length=n) (hD:D.length=n) (sA:au Z A) (sD:au Z D) (va:val Z A=a) (vb:val Z D=b) (hba:b<=a) :
  val Z (fK 1 0 D (D.length+1) 0 0 0 (A++[0])).2=a - b∧au Z (fK 1 0 D (D.length+1) 0 0 0 (A++[0])).2∧(fK 1 0 D (D.length+1) 0 0 0 (A++[0])).2.length=n+1:=by
 have sA0:au Z (A++[0]):=mP sA (ln 1);have l2:=gF aR sD;rw [vb,hD] at l2
 obtain ⟨h1,h2,h3,h4⟩:=xE (g:=1) (at_:=0) Eh sD (D.length+1) 0 0 0 (A++[0]) (by simp;omega) aR (Yx _) sA0 (by
  rw [Y4,vb,hD,Xt,Zk,Nat.pow_succ];exact Z2 l2 (Zf _ aR))
 have e2:val Z (A++[0])=a:=by rw [show ([0]:List Nat)=List.replicate 1 0 from rfl,kA,va]
 have hl:(fK 1 0 D (D.length+1) 0 0 0 (A++[0])).2.length=n+1:=by rw [h1.1];simp [hA]
 refine ⟨?_,h2,hl⟩;have h5:=gF aR h2;rw [hl] at h5;rw [e2,Y4,vb,hD] at h4;rw [hD] at h3 h5 ⊢;generalize val Z (fK 1 0 D (n+1) 0 0 0 (A++[0])).2=x at *;generalize (fK 1 0 D (n+1) 0 0 0 (A++[0])).1=c at *;simp only [Zk,Nat.add_zero,Nat.pow_zero,Xt] at h4;rcases Zh c with h | h
 ·subst h;omega
 ·have:c=1:=by omega
  subst this;rw [Ym] at h4;omega
theorem vB {a b:Nat} (hba:b<=a) (ha:ndg a < 1000000):CP Y F.gS [S (aa a),S (aa b)] (.tup [S (aa (a - b)),I 0]):=by
 have hb:ndg b < 1000000:=Ze (cE hba) ha;refine zW ?_;have bo:=xo a b;have dc:=rM ha hb
 have hc:¬ Big.cmp a b < 0:=by
  unfold Big.cmp;rw [if_neg (by omega)];split <;> omega
 have hc2:(-1:Int)<=Big.cmp a b∧Big.cmp a b<=1:=by
  unfold Big.cmp;split
  ·omega
  ·split <;> omega
 generalize Big.cmp a b=cc at *;simp (disch:=first|omega|simp<;>omega|fail)[gS];refine cd dc ?_;simp (disch:=first|omega|simp<;>omega|fail)[hc];by_cases h18:ndg a<=18∧ndg b<=18
 ·rw [if_pos h18] at bo;have g3:10 ^ ndg a<=10 ^ 18:=Z3 (by decide) h18.1;have b1:a < 1000000000000000000:=Z2 (bR a) g3;refine cd bo ?_;obtain ⟨m,hm⟩:∃ m,a - b=m:=⟨_,rfl⟩;have em:(a:Int) - (b:Int)=(m:Int):=by omega
  rw [hm];simp (disch:=first|omega|simp<;>omega|fail)[em];refine cd (vf (n:=m) (by omega)) ?_;exact aj rfl rfl
 rw [if_neg h18] at bo;obtain ⟨ca,hca⟩:∃ ca,ca=ndg a / 9+1:=⟨_,rfl⟩;obtain ⟨cb,hcb⟩:∃ cb,cb=ndg b / 9+1:=⟨_,rfl⟩;have cA:=od (h:=[(0,.none),(0,.none),(0,.none),(0,.none),(0,.none),(0,.none),(0,.none)]) rfl (n:=a) (by omega) hca;have LA:bn a=ca∨bn a+1=ca:=by rw [hca];exact xm
 have LB:bn b=cb∨bn b+1=cb:=by rw [hcb];exact xm
 have hle:bn b<=bn a:=(kS ag).2 (Ze hba (B8 a));have hli:∀ h:Hp,dt 1 [D.int .u64 0] [(0,V.d (D.int .u64 0))] h=some ([u6 0],h):=fun h=>by simp [dt,fW,iA,toD,u6]
 refine cd bo ?_;simp (disch:=first|omega|simp<;>omega|fail)[];refine jX (gE (e:=0) (b:=.none) cA rfl ?_);rw [List.length_map,bK];simp (disch:=first|omega|simp<;>omega|fail)[hli]
 have nv:NV [(1,.data 1 ((aN ca a).map u6) true false),(0,.none),(0,.none),(0,.none),(0,.none),(0,.none),(0,.none)]:=by
  intro j x hj b';rcases Wy.2 ⟨j,hj⟩ with hm;simp only [Zt,Zb,or_false] at hm;rcases hm with rfl | rfl | rfl | rfl | rfl | rfl | rfl <;> rfl
 refine ID (s:=0) (t:=1) (n:=a) (c:=ca) (by omega) rfl rfl LA (by omega) fun s1 e1 ex1 h1 l1 g1 hs1 o1=>?_
 have nv1:=nv.upd g1 o1;have k1:∀ j,2<=j->h1[j]? = ([(1,.data 1 ((aN ca a).map u6) true false),(0,.none),(0,.none),(0,.none),(0,.none),(0,.none),(0,.none)]:Hp)[j]?:=fun j hj=>o1 j (by omega)
 have hr1:am (.ref s1 e1 0 (bn a+1) (bn a+1) (bn a+1))=some (I (bn a+1:Nat)):=rfl
 have hb1:biI .sub (I ((bn a+1:Nat):Int)) (.d (.int .i64 1))=some (I (bn a)):=by
  rw [pD,show (((bn a+1:Nat):Int) - 1)=(bn a:Int) by omega,oh (by omega) (by omega)]
 -- the second number, twice
 have cB:=od (h:=h1) (nv1.all _) (n:=b) (by omega) hcb;refine jX (u:=.mk) (gE (e:=0) (b:=.none) cB (k1 2 (by omega)) ?_);rw [List.length_map,bK];have l2:(h1.set 2 (1,.data 1 ((aN cb b).map u6) true false)).length=7:=by simp [l1]
 have n2:(2:Nat) < h1.length:=by rw [l1];simp
 have g2:(h1.set 2 (1,.data 1 ((aN cb b).map u6) true false))[2]? = some (1,.data 1 ((aN cb b).map u6) true false):=by simp [n2]
 have o2:∀ j,j≠2->(h1.set 2 (1,.data 1 ((aN cb b).map u6) true false))[j]? = h1[j]?:=fun j hj=>by rw [List.getElem?_set_ne (Ne.symm hj)]
 have nv2:=nv1.upd g2 o2;generalize h1.set 2 (1,.data 1 ((aN cb b).map u6) true false)=h2 at *
 show bnd (am (.ref s1 e1 0 (bn a+1) (bn a+1) (bn a+1))) _
 simp only [hr1,hb1,bnd];have cB2:=od (h:=h2) (nv2.all _) (n:=b) (by omega) hcb;refine jX (u:=.mk) (gE (e:=0) (b:=.none) cB2 ((o2 3 (by decide)).trans (k1 3 (by omega))) ?_);rw [List.length_map,bK];have n3:(3:Nat) < h2.length:=by rw [l2];simp
 have g3:(h2.set 3 (1,.data 1 ((aN cb b).map u6) true false))[3]? = some (1,.data 1 ((aN cb b).map u6) true false):=by simp [n3]
 have o3:∀ j,j≠3->(h2.set 3 (1,.data 1 ((aN cb b).map u6) true false))[j]? = h2[j]?:=fun j hj=>by rw [List.getElem?_set_ne (Ne.symm hj)]
 have nv3:=nv2.upd g3 o3;generalize h2.set 3 (1,.data 1 ((aN cb b).map u6) true false)=h3 at *;obtain ⟨k,hk⟩:∃ k,k=bn a - bn b:=⟨_,rfl⟩;have hr2:am (.ref 3 (0+1) 0 (bn b) cb cb)=some (I (bn b:Nat)):=rfl
 have hb2:biI .sub (I (bn a:Int)) (I (bn b:Int))=some (I k):=by
  rw [pD,show ((bn a:Int) - (bn b:Int))=(k:Int) by omega,oh (by omega) (by omega)]
 simp only [show am (V.ref 3 (0+1) 0 (dig Z b).length cb cb)=some (I (bn b:Nat)) from rfl,hb2];have q2:h3[2]? = some (1,.data 1 ((aN cb b).map u6) true false):=(o3 2 (by decide)).trans g2;have q4:h3[4]? = some (0,.none):=((o3 4 (by decide)).trans (o2 4 (by decide))).trans (k1 4 (by omega))
 refine IA (u:=.mk) (s:=2) (t:=4) (by omega) q2 q4 LB (by omega) fun t1 s4 h4 l4 hs4 o4 ⟨e4,l4',ex4,g4⟩ rd=>?_
 have nv4:=nv3.upd g4 o4;have hss:s1≠s4:=by rcases hs1 with rfl | rfl <;> rcases hs4 with rfl | rfl <;> omega
 have h12:s1≠2∧s1≠3:=by rcases hs1 with rfl | rfl <;> omega
 have gs:h4[s1]? = some (e1,.data 1 ((dig Z a++[0]).map u6) ex1 false):=(((o4 s1 hss).trans (o3 s1 h12.2)).trans (o2 s1 h12.1)).trans g1;have lt4:=aD gs;have hdl:(dig Z b++List.replicate k 0).length=bn a:=by simp only [Zm,Y3];show bn b+k=_;omega
 have sD:au Z (dig Z b++List.replicate k 0):=mP (bD ag b) (ln _);have vD:val Z (dig Z b++List.replicate k 0)=b:=by rw [kA,fp ag]
 have rdS:=rd (fun t=>∃ l,t=sP h4 s1 e1 ex1 l) (fun g ⟨l,hg⟩=>by rw [hg];unfold sP;rw [List.getElem?_set_ne hss]);obtain ⟨c1,c2,c3⟩:=Ki (n:=bn a) rfl hdl (bD ag a) sD (fp ag a) vD hba
 have bk:=Dk (g:=1) (at_:=0) (tot:=bn a+1) (l:=dig Z a++[0]) (ex:=ex1) (e:=e1) (s:=s1) (h:=h4) (nv4.all _) lt4 rdS sD Eh (by rw [hdl];omega) (by omega) (by simp [bn]) (mP (bD ag a) (ln 1));rw [Hq gs] at bk;refine jX (u:=.mk) (kX bk ?_ (by simp));exact Av nv4 lt4 c3 c1 c2 (by omega) (fun v=>.tup [v,I 0]) (fun _=>aj rfl rfl)
theorem rj {z:Int} {w:Nat} (h:sdg z<=w):z.natAbs < 10 ^ w:=by
 have:ndg z.natAbs<=w:=by unfold sdg at h;omega
 exact Z2 (bR _) (Z3 (by decide) this)
theorem lE {z:Int} (h1 : -9223372036854775808 < z) (h2:z < 9223372036854775808):CP Y F.cZ [I z] (S (itoa z)):=by
 refine xv ?_;simp (disch:=first|omega|simp<;>omega|fail)[cZ];refine cd (xf h1 h2) ?_;exact cU rfl
theorem nL {a b k:Nat} (ha:ndg a<=k) (hb:ndg b<=k):ndg (a+b)<=k+1:=by
 have h1:a < 10 ^ k:=Z2 (bR a) (Z3 (by decide) ha);have h2:b < 10 ^ k:=Z2 (bR b) (Z3 (by decide) hb);exact a6 (by rw [Nat.pow_succ];omega) (by omega)
theorem Nf {z w:Int} (hz:ndg z.natAbs < 999999) (hw:ndg w.natAbs < 999999) : 
  cal (CX Y).p [] (.fn F.aF [] []) [S (itoa z)] fun v6 h=>
  ext v6 0 fun v7=>
  ext v6 1 fun v8=>
  cal (CX Y).p h (.fn F.aF [] []) [S (itoa w)] fun v9 h=>
  ext v9 0 fun v10=>
  ext v9 1 fun v11=>
  bnd (biB .eql v7 v10) fun v12=>
  cnd v12 (
   cal (CX Y).p h (.fn F.fR [] []) [v8,v11] fun v13 h=>
   cal (CX Y).p h (.fn F.bC [] []) [v7,v13] fun v14 h=>
   out (S (itoa (z+w))) v14 h) (
   cal (CX Y).p h (.fn F.bA [] []) [v8,v11] fun v15 h=>
   bnd (biI .lss v15 (.d (.int .i64 0))) fun v16=>
   jn (fun l17 h=>
    cal (CX Y).p h (.fn F.gS [] []) [(ge l17 1),(ge l17 2)] fun v19 h=>
    ext v19 0 fun v20=>
    ext v19 1 fun v21=>
    cal (CX Y).p h (.fn F.bC [] []) [(ge l17 0),v20] fun v22 h=>
    out (S (itoa (z+w))) v22 h) fun q18=>
    cnd v16 (
     q18 [v10,v11,v8] h) (
     q18 [v7,v8,v11] h)):=by
 simp (disch:=first|omega|simp<;>omega|fail)[];refine cd (mN z) ?_;simp (disch:=first|omega|simp<;>omega|fail)[];refine cd (mN w) ?_;have eb:biB .eql (B (decide (z < 0))) (B (decide (w < 0)))=some (B (decide (z < 0) == decide (w < 0))):=rfl;simp (disch:=first|omega|simp<;>omega|fail)[];by_cases hs:(z < 0↔w < 0)
 ·simp (disch:=first|omega|simp<;>omega|fail)[hs];refine cd (yZ (a:=z.natAbs) (b:=w.natAbs) (by omega) (by omega)) ?_;simp (disch:=first|omega|simp<;>omega|fail)[];have hk:ndg (z.natAbs+w.natAbs)<=999999:=nL (by omega) (by omega);refine cd (jB (decide (z < 0)) (n:=z.natAbs+w.natAbs) (by omega)) ?_;refine cU ?_;congr 1;unfold sg;by_cases h:z < 0
  ·simp [h];omega
  ·simp [h];omega
 ·simp (disch:=first|omega|simp<;>omega|fail)[hs];refine cd (rM (a:=z.natAbs) (b:=w.natAbs) (by omega) (by omega)) ?_;simp (disch:=first|omega|simp<;>omega|fail)[];by_cases hlt:z.natAbs < w.natAbs
  ·have hc:Big.cmp z.natAbs w.natAbs < 0:=by rw [zb hlt];decide
   refine eC (l:=[B (decide (w < 0)),S (aa w.natAbs),S (aa z.natAbs)]) (h:=[]) (fun q=>by simp (disch:=first|omega|simp<;>omega|fail)[hc]) ?_;simp (disch:=first|omega|simp<;>omega|fail)[];refine cd (vB (a:=w.natAbs) (b:=z.natAbs) (by omega) (by omega)) ?_;simp (disch:=first|omega|simp<;>omega|fail)[]
   refine cd (jB (decide (w < 0)) (n:=w.natAbs - z.natAbs) (Ze (cE (Nat.sub_le ..)) (by omega))) ?_;refine cU ?_;congr 1;unfold sg;by_cases h:w < 0
   ·simp [h];omega
   ·simp [h];omega
  ·have hc:¬ Big.cmp z.natAbs w.natAbs < 0:=by
    rcases Nat.eq_or_lt_of_not_lt hlt with h | h
    ·rw [h,cmp_eq];decide
    ·rw [zc h];decide
   refine eC (l:=[B (decide (z < 0)),S (aa z.natAbs),S (aa w.natAbs)]) (h:=[]) (fun q=>by simp (disch:=first|omega|simp<;>omega|fail)[hc]) ?_;simp (disch:=first|omega|simp<;>omega|fail)[];refine cd (vB (a:=z.natAbs) (b:=w.natAbs) (by omega) (by omega)) ?_;simp (disch:=first|omega|simp<;>omega|fail)[]
   refine cd (jB (decide (z < 0)) (n:=z.natAbs - w.natAbs) (Ze (cE (Nat.sub_le ..)) (by omega))) ?_;refine cU ?_;congr 1;unfold sg;by_cases h:z < 0
   ·simp [h];omega
   ·simp [h];omega
theorem ql {z w:Int} (hz:ndg z.natAbs < 999999) (hw:ndg w.natAbs < 999999):CP Y F.bN [S (itoa z),S (itoa w)] (S (itoa (z+w))):=by
 refine C6 ?_;have l1:=nj z 18 (by decide);have l2:=nj w 18 (by decide);have tl:=Nf hz hw;simp (disch:=first|omega|simp<;>omega|fail)[bN];refine cd l1 ?_;by_cases h1:sdg z<=18
 ·rw [if_pos h1];simp (disch:=first|omega|simp<;>omega|fail)[];by_cases h2:sdg w<=18
  ·rw [if_pos h2] at l2;refine bm ?_;simp (disch:=first|omega|simp<;>omega|fail)[];refine cd l2 ?_;have b1:=rj h1;have b2:=rj h2;simp only [Nat.reducePow] at b1 b2;obtain ⟨m,hm⟩:∃ m,z+w=m:=⟨_,rfl⟩;rw [hm];simp (disch:=first|omega|simp<;>omega|fail)[hm];refine cd (lE (z:=m) (by omega) (by omega)) ?_;exact cU rfl
  ·rw [if_neg h2] at l2;refine bm ?_;simp (disch:=first|omega|simp<;>omega|fail)[];refine cd l2 ?_;simp (disch:=first|omega|simp<;>omega|fail)[];simpa using tl
 ·rw [if_neg h1];simp (disch:=first|omega|simp<;>omega|fail)[];refine bm ?_;simp (disch:=first|omega|simp<;>omega|fail)[];simpa using tl
theorem oi {z w:Int} (hz:ndg z.natAbs < 400000) (hw:ndg w.natAbs < 400000):CP Y F.ay [S (itoa z),S (itoa w)] (S (itoa (z * w))):=by
 refine CY ?_;have l1:=nj z 9 (by decide);have l2:=nj w 9 (by decide);have dm:=A0 (a:=z.natAbs) (b:=w.natAbs) (by omega) (by omega)
 have hk:ndg (z.natAbs * w.natAbs) < 1000000:=by
  have h1:=bR z.natAbs;have h2:=bR w.natAbs;have h3:z.natAbs * w.natAbs < 10 ^ (ndg z.natAbs+ndg w.natAbs):=by rw [Y0];exact Yo h1 h2
  have:=a6 h3 (by have:=ig z.natAbs;omega);omega
 have e:sg (decide (z < 0) != decide (w < 0)) (z.natAbs * w.natAbs)=z * w:=by
  unfold sg;by_cases h1:z < 0 <;> by_cases h2:w < 0
  ·simp [h1,h2];rw [Xm (by omega),Xm (by omega),Int.neg_mul_neg]
  ·simp [h1,h2];rw [Xm (by omega),Ws (by omega),Wr,Int.neg_neg]
  ·simp [h1,h2];rw [Ws (by omega),Xm (by omega),Int.mul_neg,Int.neg_neg]
  ·simp [h1,h2];rw [Ws (by omega),Ws (by omega)]
 have eb:biB .neq (B (decide (z < 0))) (B (decide (w < 0)))=some (B (decide (z < 0) != decide (w < 0))):=rfl;have jo:=jB (decide (z < 0) != decide (w < 0)) hk;rw [e] at jo
 have tail:∀ u:Unit,cal (CX Y).p [] (.fn F.aF [] []) [S (itoa z)] fun v6 h=>
  ext v6 0 fun v7=>
  ext v6 1 fun v8=>
  cal (CX Y).p h (.fn F.aF [] []) [S (itoa w)] fun v9 h=>
  ext v9 0 fun v10=>
  ext v9 1 fun v11=>
  bnd (biB .neq v7 v10) fun v12=>
  cal (CX Y).p h (.fn F.gT [] []) [v8,v11] fun v13 h=>
  cal (CX Y).p h (.fn F.bC [] []) [v12,v13] fun v14 h=>
  out (S (itoa (z * w))) v14 h:=by
  intro _;simp (disch:=first|omega|simp<;>omega|fail)[];refine cd (mN z) ?_;simp (disch:=first|omega|simp<;>omega|fail)[];refine cd (mN w) ?_;simp (disch:=first|omega|simp<;>omega|fail)[];refine cd dm ?_;simp (disch:=first|omega|simp<;>omega|fail)[];refine cd jo ?_;exact cU rfl
 simp (disch:=first|omega|simp<;>omega|fail)[ay];refine cd l1 ?_;by_cases h1:sdg z<=9
 ·rw [if_pos h1];simp (disch:=first|omega|simp<;>omega|fail)[];by_cases h2:sdg w<=9
  ·rw [if_pos h2] at l2;refine bm ?_;simp (disch:=first|omega|simp<;>omega|fail)[];refine cd l2 ?_;have b1:=rj h1;have b2:=rj h2
   have hmb:(z * w).natAbs < 1000000000000000000:=by
    rw [Zg];exact Yo b1 b2
   obtain ⟨m,hm⟩:∃ m,z * w=m:=⟨_,rfl⟩;rw [hm] at hmb ⊢;simp (disch:=first|omega|simp<;>omega|fail)[hm];refine cd (lE (z:=m) (by omega) (by omega)) ?_;exact cU rfl
  ·rw [if_neg h2] at l2;refine bm ?_;simp (disch:=first|omega|simp<;>omega|fail)[];refine cd l2 ?_;simp (disch:=first|omega|simp<;>omega|fail)[];simpa using tail ()
 ·rw [if_neg h1];simp (disch:=first|omega|simp<;>omega|fail)[];refine bm ?_;simp (disch:=first|omega|simp<;>omega|fail)[];simpa using tail ()
theorem bW (n:Nat):itoa (n:Int)=aa n:=by
 unfold itoa;rw [if_neg (by omega),Int.natAbs_natCast]
theorem NC (n:Nat):sgn (n:Int)=if n=0 then 0 else 1:=by
 unfold sgn;by_cases h:n=0
 ·simp [h]
 ·rw [if_neg (by omega),if_neg (by omega),if_neg h]
theorem DC (n:Nat):CP Y F.aZ [S (aa n)] (I (if n=0 then 0 else 1)):=by
 have:=iP (n:Int)
 rwa [bW,NC] at this
theorem C8 {a b:Nat} (ha:ndg a < 1000000) (hb:ndg b < 1000000):CP Y F.fJ [S (aa a),S (aa b)] (I (Big.cmp a b)):=by
 refine wk ?_;have s1:=DC a;have s2:=DC b;simp (disch:=first|omega|simp<;>omega|fail)[fJ];by_cases h1:a=0
 ·rw [if_pos h1] at s1;by_cases h2:b=0
  ·rw [if_pos h2] at s2;refine cd s1 ?_;simp (disch:=first|omega|simp<;>omega|fail)[];refine cd s2 ?_;simp (disch:=first|omega|simp<;>omega|fail)[];refine cd (mO a) ?_;simp (disch:=first|omega|simp<;>omega|fail)[];refine cd (mO b) ?_;simp (disch:=first|omega|simp<;>omega|fail)[]
   refine eC (l:=[S (aa a),S (aa b)]) (h:=[]) (fun q=>by simp (disch:=first|omega|simp<;>omega|fail)[]) ?_;simp (disch:=first|omega|simp<;>omega|fail)[];refine cd (rM ha hb) ?_;exact bG rfl
  ·rw [if_neg h2] at s2;refine cd s1 ?_;simp (disch:=first|omega|simp<;>omega|fail)[];refine cd s2 ?_;simp (disch:=first|omega|simp<;>omega|fail)[];exact bG (zb (by omega)).symm
 ·rw [if_neg h1] at s1;by_cases h2:b=0
  ·rw [if_pos h2] at s2;refine cd s1 ?_;simp (disch:=first|omega|simp<;>omega|fail)[];refine cd s2 ?_;simp (disch:=first|omega|simp<;>omega|fail)[];exact bG (zc (by omega)).symm
  ·rw [if_neg h2] at s2;refine cd s1 ?_;simp (disch:=first|omega|simp<;>omega|fail)[];refine cd s2 ?_;simp (disch:=first|omega|simp<;>omega|fail)[];refine cd (mO a) ?_;simp (disch:=first|omega|simp<;>omega|fail)[];refine cd (mO b) ?_;simp (disch:=first|omega|simp<;>omega|fail)[]
   refine eC (l:=[S (aa a),S (aa b)]) (h:=[]) (fun q=>by simp (disch:=first|omega|simp<;>omega|fail)[]) ?_;simp (disch:=first|omega|simp<;>omega|fail)[];refine cd (rM ha hb) ?_;exact bG rfl
theorem yQ {a b:Nat} (hb:0 < b):(-(a:Int)) / (b:Int)=(if a % b=0 then -((a / b:Nat):Int) else -((a / b+1:Nat):Int))∧(-(a:Int)) % (b:Int)=(if a % b=0 then 0 else ((b - a % b:Nat):Int)):=by
 have h1:=X7 a b;have h2:=Yz a hb;have hbz:(b:Int) > 0:=by omega
 generalize a % b=r at *;generalize a / b=q at *;by_cases h:r=0
 ·subst h;simp only [if_true]
  have e:(-(a:Int))=(b:Int) * (-(q:Int)):=by
   rw [Int.mul_neg,<- Int.natCast_mul];congr 1;omega
  rw [e];exact ⟨Int.mul_ediv_cancel_left _ (by omega),Int.mul_emod_right _ _⟩
 ·simp only [if_neg h]
  have e:(-(a:Int))=((b - r:Nat):Int)+(b:Int) * (-((q+1:Nat):Int)):=by
   have:(a:Int)=(b:Int) * q+r:=by rw [<- Int.natCast_mul];omega
   rw [this,Int.mul_neg,Int.natCast_add,Wi];have:((b - r:Nat):Int)=(b:Int) - r:=by omega
   omega
  have l1:(0:Int)<=((b - r:Nat):Int):=by omega
  have l2:((b - r:Nat):Int) < (b:Int):=by omega
  rw [e];constructor
  ·rw [Int.add_mul_ediv_left _ _ (by omega),Int.ediv_eq_zero_of_lt l1 l2,Wd]
  ·rw [Int.add_mul_emod_self_left,Int.emod_eq_of_lt l1 l2]
theorem tV:ndg 1=1:=by decide +kernel
theorem rD {a b a' b':List UInt8} {c:Int} {h:Hp} (e1:a'=a) (e2:b'=b):out (.tup [S a,S b,I c]) (.tup [S a',S b',I c]) h:=by
 subst e1;subst e2;exact gM rfl rfl rfl
theorem OF {z:Int} {b:Nat} (hb:0 < b) (hz:ndg z.natAbs < 900000) (hbd:ndg b < 900000) :
   cal (CX Y).p [] (.fn F.aF [] []) [S (itoa z)] fun v7 h=>
   ext v7 0 fun v8=>
   ext v7 1 fun v9=>
   cal (CX Y).p h (.fn F.aF [] []) [S (aa b)] fun v10 h=>
   ext v10 0 fun v11=>
   ext v10 1 fun v12=>
   cal (CX Y).p h (.fn F.dO [] []) [v9,v12] fun v13 h=>
   ext v13 0 fun v14=>
   ext v13 1 fun v15=>
   ext v13 2 fun v16=>
   bnd (biI .neq v16 (.d (.int .i64 0))) fun v17=>
   cnd v17 (
    out (.tup [S (itoa (z / b)),S (itoa (z % b)),I 0]) (.tup [(.d (.str [])),(.d (.str [])),v16]) h) (
    bnd (biB .neq v8 v11) fun v18=>
    gd v18 true h (fun q=>q v15 h) fun v19 h=>
    gd v18 true h (fun q=>bnd (biS .neq v19 (.d (.str [48]))) fun v=>q v h) fun v20 h=>
    bnd (aV v18 v20 (.d (.bool false))) fun v21=>
    jn (fun l22 h=>
     bnd (biB .neq v8 v11) fun v24=>
     cal (CX Y).p h (.fn F.bC [] []) [v24,(ge l22 0)] fun v25 h=>
     cal (CX Y).p h (.fn F.bC [] []) [v11,(ge l22 1)] fun v26 h=>
     out (.tup [S (itoa (z / b)),S (itoa (z % b)),I 0]) (.tup [v25,v26,(.d (.int .i64 0))]) h) fun q23=>
     cnd v21 (
      cal (CX Y).p h (.fn F.fR [] []) [v14,(.d (.str [49]))] fun v27 h=>
      cal (CX Y).p h (.fn F.gS [] []) [v12,v15] fun v28 h=>
      ext v28 0 fun v29=>
      ext v28 1 fun v30=>
      q23 [v27,v29] h) (
      q23 [v14,v15] h)):=by
 have hq:ndg (z.natAbs / b)<=ndg z.natAbs:=cE (Yi ..);have hr:z.natAbs % b < b:=Yz _ hb;have hr2:ndg (z.natAbs % b)<=ndg b:=cE (by omega)
 have eb:biB .neq (B (decide (z < 0))) (B false)=some (B (decide (z < 0))):=by
  show some (B (decide (z < 0) != false))=_
  rw [Bool.bne_false]
 simp (disch:=first|omega|simp<;>omega|fail)[];refine cd (mN z) ?_;simp (disch:=first|omega|simp<;>omega|fail)[];refine cd (mO b) ?_;simp (disch:=first|omega|simp<;>omega|fail)[];refine cd (vv (a:=z.natAbs) hb (by omega) (by omega)) ?_;by_cases hneg:z < 0
 ·have ez:z = -(z.natAbs:Int):=by omega
  obtain ⟨d1,d2⟩:=yQ (a:=z.natAbs) hb;rw [<- ez] at d1 d2;rw [decide_eq_true hneg] at eb ⊢;by_cases h0:z.natAbs % b=0
  ·rw [if_pos h0] at d1 d2;rw [h0,du];simp (disch:=first|omega|simp<;>omega|fail)[];refine eC (l:=[S (aa (z.natAbs / b)),S [48]]) (h:=[]) (fun q=>by simp (disch:=first|omega|simp<;>omega|fail)[]) ?_;simp (disch:=first|omega|simp<;>omega|fail)[];refine cd (jB true (n:=z.natAbs / b) (by omega)) ?_;simp (disch:=first|omega|simp<;>omega|fail)[]
   have j0:=jB false (n:=0) (by decide +kernel);rw [du] at j0;refine cd j0 ?_;refine rD ?_ ?_
   ·rw [d1];rfl
   ·rw [d2];rfl
  ·rw [if_neg h0] at d1 d2;have h48:¬ aa (z.natAbs % b)=[48]:=fun h=>h0 (iY.1 h)
   have ad:=yZ (a:=z.natAbs / b) (b:=1) (by omega) (by rw [tV];omega);rw [show aa 1=[49] by decide +kernel] at ad;simp (disch:=first|omega|simp<;>omega|fail)[];refine bm ?_;simp (disch:=first|omega|simp<;>omega|fail)[h48];refine cd ad ?_;simp (disch:=first|omega|simp<;>omega|fail)[];refine cd (vB (a:=b) (b:=z.natAbs % b) (by omega) (by omega)) ?_
   simp (disch:=first|omega|simp<;>omega|fail)[];have hq1:ndg (z.natAbs / b+1)<=900000+1:=nL (by omega) (by rw [tV];omega);refine cd (jB true (n:=z.natAbs / b+1) (by omega)) ?_;simp (disch:=first|omega|simp<;>omega|fail)[];refine cd (jB false (n:=b - z.natAbs % b) (Ze (cE (Nat.sub_le ..)) (by omega))) ?_;refine rD ?_ ?_
   ·rw [d1];rfl
   ·rw [d2];rfl
 ·rw [decide_eq_false hneg] at eb ⊢;simp (disch:=first|omega|simp<;>omega|fail)[];refine eC (l:=[S (aa (z.natAbs / b)),S (aa (z.natAbs % b))]) (h:=[]) (fun q=>by simp (disch:=first|omega|simp<;>omega|fail)[]) ?_;simp (disch:=first|omega|simp<;>omega|fail)[];refine cd (jB false (n:=z.natAbs / b) (by omega)) ?_;simp (disch:=first|omega|simp<;>omega|fail)[]
  refine cd (jB false (n:=z.natAbs % b) (by omega)) ?_;have ez:z=(z.natAbs:Int):=by omega
  refine rD ?_ ?_
  ·rw [ez,<- Int.natCast_ediv];rfl
  ·rw [ez,<- Int.natCast_emod];rfl
theorem oT {z:Int} {b:Nat} (hb:0 < b) (hz:ndg z.natAbs < 900000) (hbd:ndg b < 900000):CP Y F.aG [S (itoa z),S (aa b)] (.tup [S (itoa (z / b)),S (itoa (z % b)),I 0]):=by
 refine xx ?_;have l1:=nj z 18 (by decide);have l2:=Gy b 18 (by decide);have tl:=OF hb hz hbd;have h48:¬ aa b=[48]:=fun h=>by have:=iY.1 h;omega
 simp (disch:=first|omega|simp<;>omega|fail)[aG,h48];refine cd l1 ?_;by_cases h1:sdg z<=18
 ·rw [if_pos h1];by_cases h2:ndg b<=18
  ·rw [if_pos h2] at l2;simp (disch:=first|omega|simp<;>omega|fail)[];refine bm ?_;simp (disch:=first|omega|simp<;>omega|fail)[];refine cd l2 ?_;have b1:=rj h1;have b2:b < 10 ^ 18:=Z2 (bR b) (Z3 (by decide) h2);simp only [Nat.reducePow] at b1 b2;have hbz:¬ (b:Int)=0:=by omega
   obtain ⟨n,hn⟩:∃ n,n=z.natAbs:=⟨_,rfl⟩;rw [<- hn] at b1;have hq:n / b<=n:=Yi ..;have hr:n % b < b:=Yz _ hb;by_cases hneg:z < 0
   ·have ez:z = -(n:Int):=by omega
    obtain ⟨d1,d2⟩:=yQ (a:=n) hb;rw [<- ez] at d1 d2;have q1:z.tdiv (b:Int) = -((n / b:Nat):Int):=by rw [ez,Int.neg_tdiv,Zv (by omega),<- Int.natCast_ediv]
    have q2:z.tmod (b:Int) = -((n % b:Nat):Int):=by rw [ez,Int.neg_tmod,Zw (by omega),<- Int.natCast_emod]
    obtain ⟨q,hqq⟩:∃ q,q=n / b:=⟨_,rfl⟩;obtain ⟨r,hrr⟩:∃ r,r=n % b:=⟨_,rfl⟩;rw [<- hqq] at q1 d1 hq;rw [<- hrr] at q2 d1 d2 hr;by_cases h0:r=0
    ·rw [if_pos h0] at d1 d2;rw [h0] at q2;simp (disch:=first|omega|simp<;>omega|fail)[q1,q2];refine eC (l:=[I (-(q:Int)),I 0]) (h:=[]) (fun q=>by simp (disch:=first|omega|simp<;>omega|fail)[]) ?_;simp (disch:=first|omega|simp<;>omega|fail)[];refine cd (lE (z:=-(q:Int)) (by omega) (by omega)) ?_;simp (disch:=first|omega|simp<;>omega|fail)[];refine cd (lE (z:=0) (by omega) (by omega)) ?_
     refine rD ?_ ?_
     ·rw [d1]
     ·rw [d2]
    ·rw [if_neg h0] at d1 d2;have r0:¬ (-(r:Int))=0:=by omega
     have r1:(-(r:Int)) < 0:=by omega
     have r2:¬ (b:Int) < 0:=by omega
     have eb:∀ x y:Bool,biB .neq (B x) (B y)=some (B (x != y)):=fun _ _=>rfl
     simp (disch:=first|omega|simp<;>omega|fail)[q1,q2,r0,r2];refine eC (l:=[I (-(q:Int) - 1),I (-(r:Int)+b)]) (h:=[]) (fun q=>by simp (disch:=first|omega|simp<;>omega|fail)[]) ?_;simp (disch:=first|omega|simp<;>omega|fail)[];refine cd (lE (z:=-(q:Int) - 1) (by omega) (by omega)) ?_;simp (disch:=first|omega|simp<;>omega|fail)[]
     refine cd (lE (z:=-(r:Int)+b) (by omega) (by omega)) ?_;refine rD ?_ ?_
     ·rw [d1];congr 1;omega
     ·rw [d2];congr 1;omega
   ·have ez:z=(n:Int):=by omega
    have q1:z.tdiv (b:Int)=((n / b:Nat):Int):=by rw [ez,Zv (by omega),<- Int.natCast_ediv]
    have q2:z.tmod (b:Int)=((n % b:Nat):Int):=by rw [ez,Zw (by omega),<- Int.natCast_emod]
    have d1:z / (b:Int)=((n / b:Nat):Int):=by rw [ez,<- Int.natCast_ediv]
    have d2:z % (b:Int)=((n % b:Nat):Int):=by rw [ez,<- Int.natCast_emod]
    obtain ⟨q,hqq⟩:∃ q,q=n / b:=⟨_,rfl⟩;obtain ⟨r,hrr⟩:∃ r,r=n % b:=⟨_,rfl⟩;rw [<- hqq] at q1 d1 hq;rw [<- hrr] at q2 d2 hr;have r1:¬ ((r:Int)) < 0:=by omega
    have r2:¬ (b:Int) < 0:=by omega
    have eb:∀ x y:Bool,biB .neq (B x) (B y)=some (B (x != y)):=fun _ _=>rfl
    have fin:∀ h:Hp,cal (CX Y).p h (V.fn F.cZ [] []) [I q] fun v45 h=>
      cal (CX Y).p h (V.fn F.cZ [] []) [I r] fun v46 h=>out (V.tup [S (itoa (z / (b:Int))),S (itoa (z % (b:Int))),I 0]) (V.tup [v45,v46,V.d (D.int IntKind.i64 0)]) h:=by
     intro h;simp (disch:=first|omega|simp<;>omega|fail)[];refine cd (lE (z:=q) (by omega) (by omega)) ?_;simp (disch:=first|omega|simp<;>omega|fail)[];refine cd (lE (z:=r) (by omega) (by omega)) ?_;refine rD ?_ ?_
     ·rw [d1]
     ·rw [d2]
    by_cases h0:r=0
    ·rw [h0] at q2 fin;simp (disch:=first|omega|simp<;>omega|fail)[q1,q2];refine eC (l:=[I q,I 0]) (h:=[]) (fun q=>by simp (disch:=first|omega|simp<;>omega|fail)[]) ?_;exact fin []
    ·have r0:¬ (r:Int)=0:=by omega
     simp (disch:=first|omega|simp<;>omega|fail)[q1,q2,r1,r2];refine eC (l:=[I q,I r]) (h:=[]) (fun q=>by simp (disch:=first|omega|simp<;>omega|fail)[]) ?_;exact fin []
  ·rw [if_neg h2] at l2;simp (disch:=first|omega|simp<;>omega|fail)[];refine bm ?_;simp (disch:=first|omega|simp<;>omega|fail)[];refine cd l2 ?_;simp (disch:=first|omega|simp<;>omega|fail)[];simpa using tl
 ·rw [if_neg h1];simp (disch:=first|omega|simp<;>omega|fail)[];refine bm ?_;simp (disch:=first|omega|simp<;>omega|fail)[];simpa using tl
theorem JW {a b:Nat} (ha0:0 < a) (hb0:0 < b) (ha:ndg a < 400000) (hb:ndg b < 400000):CP Y F.jE [S (aa a),S (aa b)] (S (aa (Nat.lcm a b))):=by
 refine zZ ?_;have h1:¬ aa a=[48]:=fun h=>by have:=iY.1 h;omega
 have h2:¬ aa b=[48]:=fun h=>by have:=iY.1 h;omega
 have hg:0 < Nat.gcd a b:=Nat.gcd_pos_of_pos_left _ ha0;have hgl:Nat.gcd a b<=a:=Nat.gcd_le_left _ ha0;have hq:ndg (a / Nat.gcd a b)<=ndg a:=cE (Yi ..);simp (disch:=first|omega|simp<;>omega|fail)[jE,h1,h2];refine cd (H5 (by omega) (by omega)) ?_;simp (disch:=first|omega|simp<;>omega|fail)[]
 refine cd (vv (a:=a) (b:=Nat.gcd a b) hg (by omega) (by have:=cE hgl;omega)) ?_;simp (disch:=first|omega|simp<;>omega|fail)[];refine cd (A0 (a:=a / Nat.gcd a b) (b:=b) (by omega) (by omega)) ?_;refine cU ?_;congr 1;rw [Nat.lcm,Zy,<- Nat.mul_div_assoc _ (Wn a b),Zy]
theorem IE (n:Nat):CP Y F.fT [S (aa n)] (S (aa n)):=by
 have:=CK (n:Int)
 rwa [bW,Int.natAbs_natCast] at this
theorem Np {a b:Nat} (ha0:0 < a) (hb0:0 < b) (ha:ndg a < 400000) (hb:ndg b < 400000):CP Y F.ky [S (aa a),S (aa b)] (S (aa (Nat.lcm a b))):=by
 refine C3 ?_;simp (disch:=first|omega|simp<;>omega|fail)[ky];refine cd (IE a) ?_;simp (disch:=first|omega|simp<;>omega|fail)[];refine cd (IE b) ?_;simp (disch:=first|omega|simp<;>omega|fail)[];refine cd (JW ha0 hb0 ha hb) ?_;exact cU rfl
theorem Jk {z:Int} (h:z.natAbs < 9223372036854775808):CP Y F.d7 [S (itoa z),I 10,I 64] (.tup [I z,.d (.pl .nilIface)]):=by
 have key:∀ n:Nat,n < 9223372036854775808->(aa n)≠[]∧(aa n).all kw=true∧(aa n).length<=1000∧kY 0 (aa n)=n:=by
  intro n hn;have hd:=b9 n;have hc:=nB n
  have hl:(aa n).length<=1000:=by
   have:=a6 (n:=n) (d:=19) (by omega) (by decide);rw [aa,aJ];omega
  simp only [ma,Z8] at hc
  have hall:(aa n).all kw=true:=by
   rw [<- hc.1.2];congr 1;funext c;exact digit_eq c
  exact ⟨oG n,hall,hl,by rw [rL,hd]⟩
 have ho:Y.X.orc F.d7 [.string ⟨⟨itoa z⟩⟩,.int .i64 10,.int .i64 64]=some (.tuple #[.int .i64 z,.nilIface]):=by
  have e:∀ a,Y.X.orc F.d7 a=HF a:=fun a=>rfl
  rw [e];obtain ⟨k1,k2,k3,k4⟩:=key _ h;unfold HF;simp only;rw [if_pos ⟨trivial,trivial⟩];by_cases hz:z < 0
  ·have e1:itoa z=45 :: aa z.natAbs:=by unfold itoa;rw [if_pos hz]
   rw [e1];simp only;rw [if_pos ⟨k1,k2,k3,by rw [k4];exact h⟩,k4,show (-((z.natAbs:Nat):Int))=z by omega]
  ·have e1:itoa z=aa z.natAbs:=by unfold itoa;rw [if_neg hz]
   rw [e1];have hh:=lX z.natAbs;have ez:((z.natAbs:Nat):Int)=z:=by omega
   generalize aa z.natAbs=L at *
   have fin:(if L≠[]∧L.all kw=true∧L.length<=1000∧kY 0 L < 9223372036854775808 then some (Value.tuple #[.int .i64 (kY 0 L),.nilIface]) else none)=some (Value.tuple #[.int .i64 z,.nilIface]):=by
    rw [if_pos ⟨k1,k2,k3,by rw [k4];exact h⟩,k4,ez]
   split
   ·rename_i l hl;exact absurd rfl hh
   ·exact fin
 exact CP.orc ho (by intro x hx;simp only [Zt,Zb,or_false] at hx;rcases hx with rfl | rfl | rfl <;> rfl) rfl
theorem uW {z:Int} (h:z.natAbs < 9223372036854775808):CP Y F.gI [S (itoa z)] (.tup [I z,B true]):=by
 refine zu ?_;simp (disch:=first|omega|simp<;>omega|fail)[gI];refine cd (Jk h) ?_;simp (disch:=first|omega|simp<;>omega|fail)[BZ];exact aj rfl rfl
def RdN (s:Nat) (h:Hp) (v:V) (d:List Nat):Prop:=∀ h':Hp,h'.length=h.length->(∀ j,j≠s->h'[j]? = h[j]?)->RdP h' v d∧∃ h2,aB h' v=some (lst u6 d,h2)
theorem RdN.now {s:Nat} {h:Hp} {v:V} {d:List Nat} (r:RdN s h v d):RdP h v d:=(r h rfl fun _ _=>rfl).1
theorem RdN.step {s:Nat} {h h2:Hp} {v:V} {d:List Nat} (r:RdN s h v d) (hl:h2.length=h.length) (hs:∀ j,j≠s->h2[j]? = h[j]?):RdN s h2 v d:=
 fun h' h1 h3=>r h' (h1.trans hl) fun j hj=>(h3 j hj).trans (hs j hj)
theorem RdN.new {s t e N m:Nat} {h:Hp} (hst:s≠t) (hg:h[t]? = some (e,.data 1 ((aN N m).map u6) true false)) (hm:m < Z ^ N):RdN s h (.ref t e 0 (dig Z m).length N N) (dig Z m):=fun h' hl ho=>by
 have:=xt (h:=h') (cap:=N) ((ho t (Ne.symm hst)).trans hg) (bK ..).symm (fE hm);rw [jQ hm] at this;have sn:=qt (h:=h') ((ho t (Ne.symm hst)).trans hg) (bK ..).symm (len:=(dig Z m).length) (cap:=N) (fE hm) (Z7 _);rw [jQ hm] at sn;exact ⟨this,_,sn⟩
theorem and_one {n:Int} (h0:0<=n) (h1:n < 9223372036854775808):biI .and (I n) (I 1)=some (I (n % 2)):=by
 obtain ⟨m,rfl⟩:∃ m:Nat,n=m:=⟨n.toNat,by omega⟩
 have hb:(BitVec.ofInt 64 (m:Int) &&& BitVec.ofInt 64 1).toNat=m % 2:=by
  rw [BitVec.toNat_and]
  have e1:(BitVec.ofInt 64 (m:Int)).toNat=m:=by
   rw [BitVec.toNat_ofInt];omega
  have e2:(BitVec.ofInt 64 (1:Int)).toNat=1:=by decide
  rw [e1,e2,Nat.and_one_is_mod]
 simp only [biI,fi,ne_eq,not_true_eq_false,if_false,jy,gk]
 show some (V.d (.int .i64 (IntKind.wrap .i64 ((BitVec.ofInt 64 (m:Int) &&& BitVec.ofInt 64 1).toNat:Int))))=_
 rw [hb,oh (by omega) (by omega)];rfl
theorem Ld (k:KL):∀ (n A Bv:Nat) (o p:V) (h:Hp) (R:Nat),A * Bv ^ n=R->0 < A->0 < Bv->R < Z ^ 2000->n < 100000->h.length=3->NV h->RdN 2 h o (dig Z A)->RdN 1 h p (dig Z Bv) ->
  (∀ o' h' h2,h'.length=3->aB h' o'=some (lst u6 (dig Z R),h2)->NV h'->k (.exit 1) [o'] h')->∀ h0:Hp,h0.length=3->lp (iv (CX Y)) [] h0 [o,p,I n] h k:=by
 intro n
 induction n using Nat.strongRecOn with
 | ind n ih=>
  intro A Bv o p h R hR hA hB hlim hn hlen hnv ro rp hk h0 hl0;refine ai ?_;by_cases hz:n=0
  ·subst hz;simp (disch:=first|omega|simp<;>omega|fail)[iv];rw [Nat.pow_zero,Ym] at hR;subst hR;obtain ⟨h2,hs2⟩:=(ro h rfl fun _ _=>rfl).2;exact hk o h h2 hlen hs2 hnv
  have hpos:(n:Int) > 0:=by omega
  have hBR:Bv<=R:=by
   rw [<- hR];exact Z4 (Nat.le_of_eq (Nat.pow_one Bv).symm) (Z4 (Z3 hB (by omega)) (Nat.le_mul_of_pos_left _ hA))
  have hAR:A<=R:=by rw [<- hR];exact Zf _ (Yl hB)
  have dA:(dig Z A).length<=2000:=fE (by omega);have dB:(dig Z Bv).length<=2000:=fE (by omega);have and1:=and_one (n:=(n:Int)) (by omega) (by omega);have e2:((n:Int) / 2 ^ (1:Int).toNat)=((n / 2:Nat):Int):=by simp
  have sh:biI .shr (I n) (.d (.int .u64 1))=some (I (n / 2:Nat)):=by
   rw [NB (by omega) (by omega),e2]
  have hn2:n / 2 < n:=by omega
  -- what a product gives
  have times:∀ (h:Hp) (v w:V) (a b s:Nat),h.length=3->NV h->s < 3->RdP h v (dig Z a)->RdP h w (dig Z b)->(dig Z a).length<=2000->(dig Z b).length<=2000->∀ q:V->Hp->Prop,
    (∀ o' h',h'.length=3->NV h'->(∀ j,j≠s->h'[j]? = h[j]?)->(∀ t,t≠s->RdN t h' o' (dig Z (a * b)))->q o' h')->cai (CX Y).i h (V.fn F.aQ [] []) [v,w] s q:=by
   intro h v w a b s hl hv hs r1 r2 d1 d2 q hq;obtain ⟨N,hN⟩:∃ N,N=(dig Z a).length+(dig Z b).length:=⟨_,rfl⟩;have tk:=uR (h:=h) (hv.all _) r1 (bD ag a) r2 (bD ag b) (by omega) (by omega) hN;rw [fp ag,fp ag] at tk;have hs3:s < h.length:=by omega
   have hm:a * b < Z ^ N:=by rw [hN,Y0];exact Yo (pi a) (pi b)
   refine gE (e:=h[s].1) (b:=h[s].2) tk (List.getElem?_eq_getElem hs3) ?_;rw [List.length_map,bK];have gs:(h.set s (h[s].1+1,.data 1 ((aN N (a * b)).map u6) true false))[s]? = some (h[s].1+1,.data 1 ((aN N (a * b)).map u6) true false):=by simp [hs3]
   have os:∀ j,j≠s->(h.set s (h[s].1+1,.data 1 ((aN N (a * b)).map u6) true false))[j]? = h[j]?:=fun j hj=>by rw [List.getElem?_set_ne (Ne.symm hj)]
   exact hq _ _ (by simp [hl]) (hv.upd gs os) os (fun t ht=>RdN.new ht gs hm)
  have fin:∀ (A' B':Nat) (o' p':V) (h':Hp),A' * B' ^ (n / 2)=R->0 < A'->0 < B'->h'.length=3->NV h'->RdN 2 h' o' (dig Z A')->RdN 1 h' p' (dig Z B')->rl (lp (iv (CX Y)) [] h0 [o',p',I ((n:Int) / 2)] h') k .mk:=by
   intro A' B' o' p' h' e1 e2 e3 e4 e5 e6 e7;rw [show ((n:Int) / 2)=((n / 2:Nat):Int) by omega];exact ih (n / 2) hn2 A' B' o' p' h' R e1 e2 e3 hlim (by omega) e4 e5 e6 e7 hk h0 hl0
  have hdm:=X7 n 2;simp (disch:=first|omega|simp<;>omega|fail)[iv];refine bm ?_;simp (disch:=first|omega|simp<;>omega|fail)[and1];by_cases hod:(n:Int) % 2=1
  ·have hod':n % 2=1:=by omega
   have eR:A * Bv * (Bv * Bv) ^ (n / 2)=R:=by
    rw [<- hR]
    conv=>rhs;rw [<- hdm,hod',Y0,Nat.pow_mul,Nat.pow_one]
    rw [Nat.pow_two,Nat.mul_assoc,Zy Bv]
   refine bm ?_;simp (disch:=first|omega|simp<;>omega|fail)[hod];refine jX (times h o p A Bv 1 hlen hnv (by omega) ro.now rp.now dA dB _ fun o' h' l1 v1 s1 r1=>?_);have rp1:=rp.step (l1.trans hlen.symm) s1;have ro1:=r1 2 (by omega);simp (disch:=first|omega|simp<;>omega|fail)[];refine bm ?_;by_cases h1:(n:Int) > 1
   ·simp (disch:=first|omega|simp<;>omega|fail)[h1];refine jX (times h' p p Bv Bv 2 l1 v1 (by omega) rp1.now rp1.now dB dB _ fun p' h'' l2 v2 s2 r2=>?_);have ro2:=ro1.step (l2.trans l1.symm) s2;simp (disch:=first|omega|simp<;>omega|fail)[sh];exact fin _ _ o' p' h'' eR (Yu hA hB) (Yu hB hB) l2 v2 ro2 (r2 1 (by omega))
   ·have hn1:n=1:=by omega
    simp (disch:=first|omega|simp<;>omega|fail)[h1,sh];refine fin (A * Bv) Bv o' p h' ?_ (Yu hA hB) hB l1 v1 ro1 rp1;rw [<- eR];subst hn1;simp
  ·have hod':n % 2=0:=by omega
   have eR:A * (Bv * Bv) ^ (n / 2)=R:=by
    rw [<- hR]
    conv=>rhs;rw [<- hdm,hod',Nat.add_zero,Nat.pow_mul]
    rw [Nat.pow_two]
   refine bm ?_;simp (disch:=first|omega|simp<;>omega|fail)[hod];refine bm ?_;have h1:(n:Int) > 1:=by omega
   simp (disch:=first|omega|simp<;>omega|fail)[h1];refine jX (times h p p Bv Bv 2 hlen hnv (by omega) rp.now rp.now dB dB _ fun p' h'' l2 v2 s2 r2=>?_);have ro2:=ro.step (l2.trans hlen.symm) s2;simp (disch:=first|omega|simp<;>omega|fail)[sh];exact fin _ _ o p' h'' eR hA (Yu hB hB) l2 v2 ro2 (r2 1 (by omega))
theorem HX {n:Nat} (h:n < 18446744073709551616):CP Y F.gY [.d (.int .u64 n)] (I (aY n)):=by
 refine wD ?_;simp (disch:=first|omega|simp<;>omega|fail)[gY];refine cd (yx h) ?_;simp (disch:=first|omega|simp<;>omega|fail)[] <;> exact bG rfl
theorem rH:aa 2=[50]:=by decide +kernel
theorem dQ:aa 1=[49]:=by decide +kernel
theorem M5:CP Y F.iM [S [50]] (I 2):=by
 refine yW ?_;have h:=uV (n:=2) (by omega);rw [rH] at h;have h2:=yx (n:=2) (by omega);rw [show aY 2=2 by decide +kernel] at h2;simp (disch:=first|omega|simp<;>omega|fail)[iM];refine cd h ?_;simp (disch:=first|omega|simp<;>omega|fail)[];refine cd h2 ?_;exact bG rfl
theorem Ke {n K:Nat} (h:n / 3+1<=K):2 ^ n < 10 ^ K:=by
 have h1:2 ^ n=8 ^ (n / 3) * 2 ^ (n % 3):=by
  rw [show (8:Nat)=2 ^ 3 from rfl,<- Nat.pow_mul,<- Y0,X7]
 have h2:8 ^ (n / 3)<=10 ^ (n / 3):=Nat.pow_le_pow_left (by decide) _
 have h3:2 ^ (n % 3)<=4:=by
  have:n % 3 < 3:=Yz _ (by decide);exact Z4 (Z3 (by decide) (show n % 3<=2 by omega)) (by decide)
 have h4:10 ^ (n / 3+1)<=10 ^ K:=Z3 (by decide) h;have h5:=Zp h2 h3;rw [Nat.pow_succ] at h4;have h6:=Yl (n:=n / 3) (show 0 < 10 by decide);omega
theorem N2 {n K:Nat} (h:n / 3+1<=K) (hK:0 < K):ndg (2 ^ n)<=K:=a6 (Ke h) hK
theorem RQ {n K:Nat} (h:n / 3+1<=K):2 ^ n < Z ^ K:=Z2 (Ke h) (Nat.pow_le_pow_left (by decide) _)
theorem wY {n:Nat} (hn:n<=4000):2 ^ n < Z ^ 2000∧ndg (2 ^ n)<=2000:=
 ⟨RQ (K:=2000) (by omega),N2 (K:=2000) (by omega) (by omega)⟩
theorem JV {n:Nat} (hn:n<=4000):CP Y F.fP [S [50],I n] (.tup [S (aa (2 ^ n)),I 0]):=by
 refine wM ?_;by_cases h0:n=0
 ·subst h0;rw [Nat.pow_zero,dQ];simp (disch:=first|omega|simp<;>omega|fail)[fP];exact aj rfl rfl
 have g1:¬ (n:Int)=0:=by omega
 have g2:¬ (n:Int) < 0:=by omega
 have g3:¬ (n:Int) > 66439:=by omega
 have n1:¬ ([50]:List UInt8)=[49]:=by decide
 have n2:¬ ([50]:List UInt8)=[48]:=by decide
 have ct:=od (h:=[(0,.none),(0,.none),(0,.none)]) rfl (n:=2) (cap:=1) (by decide +kernel) (by decide +kernel);rw [rH] at ct;obtain ⟨p1,p2⟩:=wY hn;have hli:∀ h:Hp,dt 1 [D.int .u64 0] [(0,V.d (D.int .u64 1))] h=some ([u6 1],h):=fun h=>by simp [dt,fW,iA,toD,u6]
 simp (disch:=first|omega|simp<;>omega|fail)[fP,g2];refine cd M5 ?_;simp (disch:=first|omega|simp<;>omega|fail)[g3,hli];refine jX (gE (e:=0) (b:=.none) ct rfl ?_);rw [List.length_map,bK];simp (disch:=first|omega|simp<;>omega|fail)[]
 have nv:NV [(1,.data 1 ((aN 1 2).map u6) true false),(0,.none),(0,.none)]:=by
  intro j x hj b';rcases Wy.2 ⟨j,hj⟩ with hm;simp only [Zt,Zb,or_false] at hm;rcases hm with rfl | rfl | rfl <;> rfl
 refine lo (Ld _ n 1 2 (lst u6 [1]) _ [(1,.data 1 ((aN 1 2).map u6) true false),(0,.none),(0,.none)] (2 ^ n) (by rw [Xt]) (by decide) (by decide) p1 (by omega) rfl nv ?_ ?_ (fun o' h' h2 hl hr hv=>?_) _ rfl)
 ·intro h' _ _;rw [show dig Z 1=[1] by decide +kernel];exact ⟨IG h' [1],h',tB ..⟩
 ·exact RdN.new (s:=1) (t:=0) (by decide) rfl (by decide)
 ·have hl1:¬ (ndg (2 ^ n):Int) > 20000:=by omega
  have lt:=iX (2 ^ n);have tx:=qZ (n:=2 ^ n) (Ze (fE p1) (by decide));generalize 2 ^ n=m at *;simp (disch:=first|omega|simp<;>omega|fail)[];refine cdz (by simp only [ae,hr];rfl) tx ?_;rw [show fu (S (aa m))=true from rfl,if_pos rfl];simp (disch:=first|omega|simp<;>omega|fail)[lt,hl1];exact aj rfl rfl
theorem u7 {n:Nat} (hn:n<=4000):CP Y F.gJ [S [50],I n] (.tup [S (aa (2 ^ n)),I 0]):=by
 refine zy ?_;have sp:=mO 2;rw [rH] at sp;have g2:¬ (n:Int) < 0:=by omega
 have g3:¬ (n:Int) > 4000:=by omega
 obtain ⟨p1,p2⟩:=wY hn;have q:((4000:Int).tdiv 1)=4000:=by decide
 simp (disch:=first|omega|simp<;>omega|fail)[gJ,g2];refine cd sp ?_;simp (disch:=first|omega|simp<;>omega|fail)[g3,q];refine cd (JV hn) ?_;simp (disch:=first|omega|simp<;>omega|fail)[];refine cd (LU _) ?_;exact aj rfl rfl
def dgF (unit two:Nat):Nat->Nat->Nat->Nat->Option Nat
 | 0,_,_,out=>some out
 | r+1,low,high,out=>
  cond (Nat.ble two (low * low / unit)) (dgF unit two r (low * low / unit / 2) ((high * high / unit+1) / 2+1) (out+out+1))
   (cond (Nat.ble two (high * high / unit+1)) none (dgF unit two r (low * low / unit) (high * high / unit+1) (out+out)))
def vz (p n more:Nat):Option Nat:=dgF (2 ^ more) (2 ^ more+2 ^ more) n (p * 2 ^ (more - (aY p - 1))) (p * 2 ^ (more - (aY p - 1))) (aY p - 1)
def dgV:Option Nat->V
 | some v=>.tup [S (aa v),B true]
 | none=>.tup [S [],B false]
theorem om {a b:Nat} (ha:ndg a < 999999) (hb:ndg b < 999999):CP Y F.bN [S (aa a),S (aa b)] (S (aa (a+b))):=by
 have:=ql (z:=(a:Int)) (w:=(b:Int)) (by simpa using ha) (by simpa using hb)
 rwa [bW,bW,<- Int.natCast_add,bW] at this
theorem qk {a b:Nat} (ha:ndg a < 400000) (hb:ndg b < 400000):CP Y F.ay [S (aa a),S (aa b)] (S (aa (a * b))):=by
 have:=oi (z:=(a:Int)) (w:=(b:Int)) (by simpa using ha) (by simpa using hb)
 rwa [bW,bW,<- Int.natCast_mul,bW] at this
theorem oj {a b:Nat} (h0:0 < b) (ha:ndg a < 900000) (hb:ndg b < 900000):CP Y F.aG [S (aa a),S (aa b)] (.tup [S (aa (a / b)),S (aa (a % b)),I 0]):=by
 have:=oT (z:=(a:Int)) h0 (by simpa using ha) hb
 rwa [bW,<- Int.natCast_ediv,<- Int.natCast_emod,bW,bW] at this
theorem nK {a b:Nat}:ndg (a * b)<=ndg a+ndg b:=by
 have h3:a * b < 10 ^ (ndg a+ndg b):=by rw [Y0];exact Yo (bR a) (bR b)
 exact a6 h3 (by have:=ig a;omega)
theorem MN {a b:Nat}:decide (0<=Big.cmp a b)=Nat.ble b a:=by
 rw [Yw,Nat.ble_eq,decide_eq_true_eq];rcases Nat.lt_trichotomy a b with h | h | h
 ·rw [zb h];omega
 ·subst h;rw [cmp_eq];omega
 ·rw [zc h];omega
theorem Es {n k:Nat} (h:ndg n<=k):ndg (n+n+1)<=k+1:=by
 have h1:n < 10 ^ k:=Z2 (bR n) (Z3 (by decide) h);exact a6 (by rw [Nat.pow_succ];omega) (by omega)
theorem wg {unit two N W:Nat} (hu:2<=unit) (htwo:two=unit+unit) (hW:ndg two<=W) (hW2:W < 100000) (hN:N < 100000) (k:KL):∀ (r i low high out:Nat),i+r=N->low<=high->high < two->ndg out<=W+i ->
  (∀ v,dgF unit two r low high out=some v->ndg v<=W+N->k (.exit 0) [S (aa v)] [])->(dgF unit two r low high out=none->k .ret [S [],B false] []) ->
  lp (kK (CX Y) (S (aa unit)) (S (aa two)) (I N)) [] [] [S (aa low),S (aa high),S (aa out),I i] [] k
 | 0,i,low,high,out,hi,hlh,hht,ho,h0,h1=>by
  have hiN:¬ (i:Int) < (N:Int):=by omega
  refine ai ?_;simp (disch:=first|omega|simp<;>omega|fail)[kK,hiN];exact h0 out rfl (by omega)
 | r+1,i,low,high,out,hi,hlh,hht,ho,h0,h1=>by
  have hiN:(i:Int) < (N:Int):=by omega
  have ih:=wg hu htwo hW hW2 hN k r (i+1);have u1:ndg unit<=W:=Z4 (cE (by omega)) hW;have u2:ndg low<=W:=Z4 (cE (by omega)) hW;have u3:ndg high<=W:=Z4 (cE (by omega)) hW;have m1:=qk (a:=low) (b:=low) (by omega) (by omega);have m2:=qk (a:=high) (b:=high) (by omega) (by omega)
  have w1:ndg (low * low)<=W+W:=Z4 nK (by omega);have w2:ndg (high * high)<=W+W:=Z4 nK (by omega);have d1:=oj (a:=low * low) (b:=unit) (by omega) (by omega) (by omega);have d2:=oj (a:=high * high) (b:=unit) (by omega) (by omega) (by omega);have lowle:low * low / unit<=high * high / unit:=Nat.div_le_div_right (Zp hlh hlh)
  have hi4:high * high / unit+4<=4 * unit:=by
   have e1:high * high<=(2 * unit - 1) * (2 * unit - 1):=Zp (by omega) (by omega)
   have e2:(2 * unit - 1) * (2 * unit - 1)+4 * unit=4 * unit * unit+1:=by
    obtain ⟨x,hx⟩:∃ x,unit=x+1:=⟨unit - 1,by omega⟩;subst hx;rw [show 2 * (x+1) - 1=2 * x+1 by omega];simp only [Nat.add_mul,Zr,Ym,Xt,Nat.mul_assoc,Y5 x 2];omega
   have e3:high * high < (4 * unit - 3) * unit:=by
    rw [Nat.sub_mul];have:4 * unit * unit≥3 * unit:=Z1 _ (by omega);omega
   have:=(Xj (by omega)).2 e3;omega
  have eqF:dgF unit two (r+1) low high out=cond (Nat.ble two (low * low / unit)) (dgF unit two r (low * low / unit / 2) ((high * high / unit+1) / 2+1) (out+out+1))
   (cond (Nat.ble two (high * high / unit+1)) none (dgF unit two r (low * low / unit) (high * high / unit+1) (out+out))):=rfl
  rw [eqF] at h0 h1;generalize low * low / unit=L1 at *;generalize high * high / unit=H0 at *;have t2:ndg (two+two)<=W+1:=nL hW hW;have v1:ndg L1<=W+1:=Z4 (cE (by omega)) t2;have v2:ndg H0<=W+1:=Z4 (cE (by omega)) t2;have v3:ndg (H0+1)<=W+1:=Z4 (cE (by omega)) t2;have a1:=om (a:=H0) (b:=1) (by omega) (by rw [tV];omega)
  rw [dQ] at a1;have a2:=om (a:=out) (b:=out) (by omega) (by omega);have vo:ndg (out+out)<=W+i+1:=nL ho ho;have a3:=om (a:=out+out) (b:=1) (by omega) (by rw [tV];omega);rw [dQ] at a3;have c1:=C8 (a:=L1) (b:=two) (by omega) (by omega);have c2:=C8 (a:=H0+1) (b:=two) (by omega) (by omega);have g1:=MN (a:=L1) (b:=two)
  have g2:=MN (a:=H0+1) (b:=two);have d3:=oj (a:=L1) (b:=2) (by omega) (by omega) (by rw [show ndg 2=1 by decide +kernel];omega);have d4:=oj (a:=H0+1) (b:=2) (by omega) (by omega) (by rw [show ndg 2=1 by decide +kernel];omega);rw [rH] at d3 d4;have v4:ndg ((H0+1) / 2)<=W+1:=Z4 (cE (by omega)) t2
  have a4:=om (a:=(H0+1) / 2) (b:=1) (by omega) (by rw [tV];omega);rw [dQ] at a4;generalize Big.cmp L1 two=C1 at *;generalize Big.cmp (H0+1) two=C2 at *;refine ai ?_;simp (disch:=first|omega|simp<;>omega|fail)[kK,hiN];refine bm ?_;simp (disch:=first|omega|simp<;>omega|fail)[];refine cd m1 ?_;simp (disch:=first|omega|simp<;>omega|fail)[];refine cd d1 ?_
  simp (disch:=first|omega|simp<;>omega|fail)[];refine cd m2 ?_;simp (disch:=first|omega|simp<;>omega|fail)[];refine cd d2 ?_;simp (disch:=first|omega|simp<;>omega|fail)[];refine cd a1 ?_;simp (disch:=first|omega|simp<;>omega|fail)[];refine cd a2 ?_;simp (disch:=first|omega|simp<;>omega|fail)[];refine bm ?_;simp (disch:=first|omega|simp<;>omega|fail)[];refine cd c1 ?_
  simp (disch:=first|omega|simp<;>omega|fail)[];refine bm ?_;cases q1:Nat.ble two L1 with
  | true=>
   rw [q1] at g1 h0 h1;simp only [cond_true] at h0 h1;have g1':0<=C1:=by simpa using g1
   have b1:two<=L1:=Nat.le_of_ble_eq_true q1;simp (disch:=first|omega|simp<;>omega|fail)[g1'];refine cd a3 ?_;simp (disch:=first|omega|simp<;>omega|fail)[];refine cd d3 ?_;simp (disch:=first|omega|simp<;>omega|fail)[];refine cd d4 ?_;simp (disch:=first|omega|simp<;>omega|fail)[];refine cd a4 ?_;simp (disch:=first|omega|simp<;>omega|fail)[]
   have:=ih (L1 / 2) ((H0+1) / 2+1) (out+out+1) (by omega) (by omega) (by omega) (Es ho) h0 h1;simpa using this
  | false=>
   rw [q1] at g1 h0 h1;simp only [cond_false] at h0 h1;have g1':¬ 0<=C1:=by simpa using g1
   simp (disch:=first|omega|simp<;>omega|fail)[g1'];refine cd c2 ?_;simp (disch:=first|omega|simp<;>omega|fail)[];cases q2:Nat.ble two (H0+1) with
   | true=>
    rw [q2] at g2 h1;have g2':0<=C2:=by simpa using g2
    simp (disch:=first|omega|simp<;>omega|fail)[g2'];exact h1 rfl
   | false=>
    rw [q2] at g2 h0 h1;simp only [cond_false] at h0 h1;have g2':¬ 0<=C2:=by simpa using g2
    have b2:¬ two<=H0+1:=fun h=>by rw [Nat.ble_eq_true_of_le h] at q2;cases q2
    simp (disch:=first|omega|simp<;>omega|fail)[g2'];have:=ih L1 (H0+1) (out+out) (by omega) (by omega) (by omega) (by omega) h0 h1;simpa using this
theorem Jo (v:Nat) (h:Hp):out (dgV (some v)) (.tup [S (aa v),B true]) h:=aj rfl rfl
theorem Jp (h:Hp):out (dgV none) (.tup [S [],B false]) h:=aj rfl rfl
theorem GO {p n more:Nat} (hp:2<=p) (hp2:p < 1000000) (hm1:30<=more) (hm:more<=4000) (hn:n<=4000):CP Y F.size_digits [I p,I n,I more] (dgV (vz p n more)):=by
 refine zF ?_;obtain ⟨hk0,hpk,hk1⟩:=kQ (n:=p) (by omega)
 have hk2:aY p<=20:=by
  rcases Zo 20 (aY p) with h | h
  ·have:2 ^ 20<=2 ^ (aY p - 1):=Z3 (by decide) (by omega);omega
  ·exact h
 obtain ⟨kk,hkk⟩:∃ kk,kk=aY p - 1:=⟨_,rfl⟩;obtain ⟨mk,hmk⟩:∃ mk,mk=more - kk:=⟨_,rfl⟩;have e1:((aY p:Nat):Int) - 1=(kk:Int):=by omega
 have e2:(more:Int) - (kk:Int)=(mk:Int):=by omega
 have hcv:IntKind.wrap .u64 (p:Int)=(p:Int):=FH (by omega) (by omega);have lb:=HX (n:=p) (by omega);have pw:=u7 hm;have pw2:=u7 (n:=mk) (by omega);have b1:=(wY hm).2;have b2:=(wY (n:=mk) (by omega)).2;have ad:=om (a:=2 ^ more) (b:=2 ^ more) (by omega) (by omega);have op:=Gj (n:=p) (by omega);have ok:=Gj (n:=kk) (by omega)
 have np:ndg p<=6:=a6 (by omega) (by decide);have nk:ndg kk<=2:=a6 (by omega) (by decide);have ml:=qk (a:=p) (b:=2 ^ mk) (by omega) (by omega);have b3:ndg (2 ^ more+2 ^ more)<=2000+1:=nL b1 b1
 have hlt:p * 2 ^ mk < 2 ^ more+2 ^ more:=by
  have h1:p * 2 ^ mk < 2 ^ aY p * 2 ^ mk:=(Nat.mul_lt_mul_right (Yl (by decide))).2 hpk;rw [<- Y0,show aY p+mk=more+1 by omega,Nat.pow_succ] at h1;omega
 have hu:2<=2 ^ more:=by
  have:2 ^ 1<=2 ^ more:=Z3 (by decide) (by omega);omega
 have eF:vz p n more=dgF (2 ^ more) (2 ^ more+2 ^ more) n (p * 2 ^ mk) (p * 2 ^ mk) kk:=by
  unfold vz;rw [<- hkk,<- hmk]
 rw [eF];generalize 2 ^ more=unit at *;generalize 2 ^ mk=pm at *;generalize p * pm=low at *;simp (disch:=first|omega|simp<;>omega|fail)[size_digits,hcv];refine cd lb ?_;simp (disch:=first|omega|simp<;>omega|fail)[e1];refine cd pw ?_;simp (disch:=first|omega|simp<;>omega|fail)[];refine cd ad ?_;simp (disch:=first|omega|simp<;>omega|fail)[e2];refine cd pw2 ?_
 simp (disch:=first|omega|simp<;>omega|fail)[];refine cd op ?_;simp (disch:=first|omega|simp<;>omega|fail)[];refine cd ml ?_;simp (disch:=first|omega|simp<;>omega|fail)[];refine cd ok ?_;simp (disch:=first|omega|simp<;>omega|fail)[];refine lo (wg hu rfl (W:=2001) b3 (by omega) (N:=n) (by omega) _ n 0 low low kk (by omega) (Z7 _) hlt (by omega) (fun v hv _=>?_) (fun hv=>?_))
 ·rw [hv];simp (disch:=first|omega|simp<;>omega|fail)[];exact Jo v _
 ·rw [hv];simp (disch:=first|omega|simp<;>omega|fail)[];exact Jp _
def Ca (p n:Nat):Option Nat:=if p=2 then some (2 ^ n) else vz p n (n+64)
theorem Qp {p n v:Nat} (hp:2<=p) (hp2:p < 1000000) (hn:n<=3900) (hv:Ca p n=some v):CP Y F.m6 [I p,I n] (S (aa v)):=by
 refine FV ?_;unfold Ca at hv;by_cases h2:p=2
 ·rw [if_pos h2] at hv;simp only [Z9] at hv;have e:((p:Int)=2):=by omega
  have pw:=u7 (n:=n) (by omega);rw [hv] at pw;simp (disch:=first|omega|simp<;>omega|fail)[m6,e];refine cd pw ?_;simp (disch:=first|omega|simp<;>omega|fail)[];exact cU rfl
 ·rw [if_neg h2] at hv;have e:¬ ((p:Int)=2):=by omega
  have dg:=GO (p:=p) (n:=n) (more:=n+64) hp hp2 (by omega) (by omega) (by omega);rw [hv] at dg;obtain ⟨m,hm⟩:∃ m,m=n+64:=⟨_,rfl⟩;rw [<- hm] at dg;have e3:(n:Int)+64=(m:Int):=by omega
  simp (disch:=first|omega|simp<;>omega|fail)[m6,e,e3];refine lo (ai ?_);simp (disch:=first|omega|simp<;>omega|fail)[vP];refine cd dg ?_;simp (disch:=first|omega|simp<;>omega|fail)[dgV];exact cU rfl
end Go.Vm
