/- Lemmas. -/
import Derived.Test.YtnomjjmegfhkhaaGreatDoorQTmC
import Derived.Shelf.Pu.ParseUintPublic10
import Derived.Shelf.Strconv.ParseIntPublic10
import Derived.RangeFuncBox
import Derived.Shelf.Abstract
import Derived.WalkKit
import Derived.OwnWalkIn
import Derived.TacticsInMore
import Derived.LoopIn
set_option linter.unusedVariables false
set_option linter.unusedSimpArgs false
namespace Go.Vm
variable{n c o E i k f j A g:Nat}{m w z:Mz}{L L':Nat->Nat}{u v:Ve}{x:Nat×Ve}{C:List (Nat×Ve)}
theorem Ob(E:Nat)(h:1<=E):∀k,1<=E^k:=λk=>Nat.one_le_pow k E h
theorem ad4{B:Nat}(hl:Ln n m)(ho:o<m.length)(hE:1<=E)(hb:BdE E m)(hW:4*E^5<10^B):
  ∃f o' m',rdZ B c f o m=some (o',m')∧BdE (32*E^10) m'∧(o'=o+1∨o'=o∧m'=m):=by
 have A:=DN c m o (m.length-o) o (-1) (.inl ⟨aa,λk a b=>by omega⟩) (Z8 _);obtain⟨a,ha⟩:=nmQ (aZ c m (m.length-o) o (-1));rw[<-ha]at A;have e4:=Ob E hE 4;have e9:=Ob E hE 9;have t5:E*1<=E*E^4:=Z1 _ e4;have t10:E*1<=E*E^9:=Z1 _ e9;have p5:E^5=E*E^4:=by rw[Nat.pow_succ,Zo]
 have p10:E^10=E*E^9:=by rw[Nat.pow_succ,Zo]
 have hall:=aaq (B:=B) hb aa;by_cases hneg:a<0
 .exact⟨1,o,m,by rw[C6,if_pos hall,<-ha,if_pos hneg],hb.mono aa,.inr ⟨rfl,rfl⟩⟩
 rcases A with⟨h,_⟩|⟨a1,a2,a3⟩
 .omega
 have hi:a.toNat<m.length:=aa;obtain⟨p0,hp0⟩:=nmQ ((eZ m a.toNat c).natAbs);have p0pos:0<p0:=aa;have p0E:p0<=E:=by rw[hp0];exact hb _ _
 obtain⟨m1,h1⟩:=nmQ (swZ m o a.toNat);have l1:m1.length=m.length:=by rw[h1,wg]
 have n1:Ln n m1:=by rw[h1];exact Jz hl ho hi
 have e1:∀k,nth [] m1 k=if k=a.toNat then nth [] m o else if k=o then nth [] m a.toNat else nth [] m k:=λk=>by grind[uu]
 have b1:BdE E m1:=by rw[h1];exact ac3 ho hi hb
 have eo:eZ m1 o c=eZ m a.toNat c:=by
  simp only[eZ,e1];split
  .grind
  .rw[if_pos trivial]
 have SW:=ut (n:=n) (c:=c) (o:=o) (m.length-(o+1)) (o+1) false n1 aa aa (.inl aa);have SR:=yf (n:=n) (c:=c) (o:=o) (m.length-(o+1)) (o+1) false n1 aa aa (.inl aa);obtain⟨s2,hs2⟩:=nmQ (Cs c o (m.length-(o+1)) (o+1) false m1);rw[<-hs2]at SW SR;obtain⟨SW,_⟩:=SW
 have b2:BdE (2*(E*E)) s2.2:=BdE.mono (by
  rw[Zl,Yp];have:E*1<=E*E:=Z1 _ hE;omega) (Ec (Q:=E) SW b1 λk q1 q2=>Z4 (YG aa) (b1 k c))
 have l2:s2.2.length=m.length:=by rw[SW.len,l1]
 have eo2:eZ s2.2 o c=eZ m1 o c:=by simp only[eZ,SW.out o (.inl aa)]
 have step:∀f,rdZ B c (f+1) o m=if s2.1=true then rdZ B c f o s2.2 else some (o+1,upZ c o o 0 (ngZ c o s2.2)):=λf=>by
  rw[C6,if_pos hall,<-ha,if_neg hneg,<-h1,<-hs2]
 have q4:E*E*(E*E)*1<=E*E*(E*E)*E^6:=Z1 _ (Ob E hE 6);have q10:E*E*(E*E)*E^6=E^10:=by grind
 cases hbb:s2.1 with
 | false=>
  refine⟨1,_,_,by rw[step,hbb];rfl,?_,.inl rfl⟩;refine BdE.mono ?_ (YP (c:=c) SW.ln aa aa b2);have:2*(2*(E*E))*(2*(E*E))=8*(E*E*(E*E)):=by grind
  omega
 | true=>
  rcases SR hbb with h|⟨k,q1,q2,q3⟩
  .cases h
  have val:∀k,o<k->k<m.length->eZ s2.2 k c=(eZ m1 k c).fmod (eZ m1 o c):=λk a b=>by
   rw[SW.inn k aa aa c,Int.fmod_def,X0]
  obtain ⟨s,hs,sp0⟩:∃s:Int,(s=1∨s = -1)∧s*eZ m1 o c=p0:=by
   rw[eo];by_cases h:0<eZ m a.toNat c
   .exact⟨1,.inl rfl,aa⟩
   .exact⟨-1,.inr rfl,aa⟩
  have sg:∀k,0<=s*(eZ m1 k c).fmod (eZ m1 o c)∧s*(eZ m1 k c).fmod (eZ m1 o c)<p0:=λk=>by
   rcases hs with h|h
   .subst h;have:=JO (a:=eZ m1 k c) (b:=eZ m1 o c) aa;omega
   .subst h;have:=YA (a:=eZ m1 k c) (b:=eZ m1 o c) aa;omega
  have S2:aaC n c o s (2*(E*E)) p0 s2.2:=⟨SW.ln,aa,hs,λk a b=>by
   by_cases hk:k=o
   .grind
   .rw[val k aa aa]
    grind,b2⟩
  have e2:1<=E*E:=by have:1*1<=E*E:=Zu hE hE;omega
  obtain ⟨f,o',m',g1,g2,g3⟩:=ad3 (B:=B) (W:=4*E^5) hW p0 S2 aa ⟨k,aa,aa,by rw[val k aa aa];exact q3,by
   rw[val k aa aa]
   grind⟩ (by
   calc 2*(2*(E*E))*(p0*p0)*p0<=2*(2*(E*E))*(E*E)*E:=Zu (Z1 _ (Zu p0E p0E)) p0E
    _=4*E^5:=by grind)
  exact ⟨f+1,o',m',by grind,g2.mono (by
   have:2*(4*E^5)*(4*E^5)=32*E^10:=by grind
   omega),.inl g3⟩
def dgN:Nat->Nat->Nat
 |0,d=>d
 |t+1,d=>dgN t (10*d+2)
theorem ZE:∀t d,d<=dgN t d
 |0,d=>Z8 _
 |t+1,d=>by have:=ZE t (10*d+2);grind[dgN]
theorem Re{n B:Nat}:∀(r:Nat){c o d:Nat}{L:Nat->Nat}{m:Mz},Hm n c o L m->BdE (10^d) m->dgN (m.length-o) d<=B->∃f0,∀f,f0<=f->∃o' m',clZ B f r c o m=some (o',m')
 |0,c,o,d,L,m,H,hb,hd=>⟨0,λf _=>⟨o,m,rfl⟩⟩
 | r+1,c,o,d,L,m,H,hb,hd=>by
  by_cases ho:o<m.length
  .have e1:1<=10^d:=Nat.one_le_pow _ _ aa;obtain⟨t,ht⟩:∃t,m.length-o=t+1:=⟨m.length-o-1,aa⟩;rw[ht]at hd;have hd2:dgN t (10*d+2)<=B:=hd;have:=ZE t (10*d+2)
   have hW:4*(10^d)^5<10^B:=by
    rw[<-Wc];have h1:10^(d*5+1)<=10^B:=Z3 aa aa;have h2:10^(d*5+1)=10^(d*5)*10:=Nat.pow_succ ..;have h3:1<=10^(d*5):=Nat.one_le_pow _ _ aa;omega
   obtain⟨f1,o1,m1,g1,g2,g3⟩:=ad4 (c:=c) H.ln ho e1 hb hW;obtain⟨⟨L1,H1⟩,s1,l1⟩:=Fu f1 H ho g1
   have hb1:BdE (10^(10*d+2)) m1:=g2.mono (by
    rw[<-Wc,Zo d 10,Yr];omega)
   have hd1:∃d1,BdE (10^d1) m1∧dgN (m1.length-o1) d1<=B:=by
    rcases g3 with h|⟨h1,h2⟩
    .exact⟨_,hb1,by rw[l1,h,show m.length-(o+1)=t by omega];omega⟩
    .grind
   obtain⟨d1,b1,k1⟩:=hd1;obtain⟨f2,hf2⟩:=Re r H1 b1 k1;refine⟨max f1 f2,λf hf=>?_⟩;obtain⟨o',m',h⟩:=hf2 f aa;refine⟨o',m',?_⟩
   show pi [] (λr=>r) (λ_ r=>r) B f (r+1) c o m=some (o',m')
   have hr:m8 [] (λr=>r) (λ_ r=>r) B c f o m=some (o1,m1):=I9 f1 f g1 aa;simp only[pi,if_pos ho,hr];exact h
  .refine⟨0,λf _=>⟨o,m,?_⟩⟩
   show pi [] (λr=>r) (λ_ r=>r) B f (r+1) c o m=some (o,m)
   grind[pi]
theorem BG(cols:Nat)(hl:Ln n m)(hm:m.length<=4)(hb:BdE (10^9) m):∃f0,∀f,f0<=f->∃o m',qU 100000 f cols m=some (o,m'):=by have H:Hm n 0 0 (λ_=>0) m:=⟨aa,hl,λi hi=>by omega,λi j h1 h2=>by omega,λi hi=>by omega,λi hi=>by omega,λi j h1 h2=>by omega,λk a b j hj=>by omega⟩;refine Re (B:=100000) cols H hb ?_;have:m.length-0=0∨m.length-0=1∨m.length-0=2∨m.length-0=3∨m.length-0=4:=aa;rcases this with h|h|h|h|h<;>rw[h]<;>decide
theorem abV{m':Mz}(H:Hm n n m.length L m)(H':Hm n n m'.length L' m')(e:SpE m m'):m=m':=by
 have h:=Ms (tu H m.length 0 0 aa (λ_=>Y7 _)) (tu H' m'.length 0 0 aa (λ_=>Y7 _)) (λv=>by
  rw[aiR H (Z8 _),aiR H' (Z8 _)];exact e v)
 have eo:m.length=m'.length:=by
  have:=congrArg List.length h
  rwa [xq,xq]at this
 refine Wo eo λi h1 h2=>?_
 rw[<-eo]at h;have e1:m[i]=nth [] m i:=by rw[nth,Z6,List.getElem?_eq_getElem h1];rfl
 have e2:m'[i]=nth [] m' i:=by rw[nth,Z6,List.getElem?_eq_getElem h2];rfl
 rw[e1,e2];refine adI ?_ (Qx h i aa aa);rw[H.ln i h1,H'.ln i h2]
theorem aeh{α:Type}(d:α)(l:List α)(h:i<o):nth d (l.take o) i=nth d l i:=by grind[nth]
theorem zU(H:Hm n n o L m):(m.take o).length=o∧Hm n n o L (m.take o)∧SpE m (m.take o):=by
 have hl:(m.take o).length=o:=by rw[Zp];have:=H.le;omega
 have e:∀i,i<o->nth [] (m.take o) i=nth [] m i:=λi hi=>aeh [] m hi
 have H2:Hm n n o L (m.take o):=
  ⟨aa,λi hi=>by rw[e i aa];exact H.ln i (by grind),H.lt,H.inc,λi hi=>by simp only[eZ,e i hi];exact H.pos i hi,λi hi j hj=>by grind[Hm.low],
   λi j h1 h2=>by simp only[eZ,e i aa,e j h2];exact H.red i j h1 h2,λk a b=>by omega⟩
 refine⟨hl,H2,λv=>?_⟩;have k1:=aiR H (Z8 _) v;have k2:=aiR H2 (Z8 _) v
 have k3:∀r i,i+r<=o->ldZ L (m.take o) r i=ldZ L m r i:=by
  intro r
  induction r with
  |zero=>intro i _;rfl
  |succ r ih=>intro i hi;simp only[ldZ,e i aa,ih (i+1) aa]
 grind
theorem Jj(l:LiQ)(k j:Nat):nth 0 (l.drop k) j=nth 0 l (k+j):=by simp[nth]
theorem Ke(k:Nat)(r:LiQ):BW k r=true↔(∃j,nth 0 r j≠0)∧∀j,j<k->nth 0 r j=0:=by
 unfold BW;cases h:r.findIdx? λz=>decide (z≠0)with
 | none=>
  simp only[Zc,false_iff];rintro⟨⟨j,hj⟩,_⟩;rw[List.findIdx?_eq_none_iff]at h;by_cases hl:j<r.length
  .grind[Yw,nth.eq_1]
  .rw[nth,Z6,List.getElem?_eq_none aa]at hj;trivial
 | some i=>
  rw[List.findIdx?_eq_some_iff_getElem]at h;obtain⟨hi,h1,h2⟩:=h;simp only[decide_eq_true_eq]at h1 h2 ⊢;have g1:nth 0 r i=r[i]:=by rw[nth,Z6,List.getElem?_eq_getElem hi];rfl
  constructor
  .intro hk;refine⟨⟨i,aa⟩,λj hj=>?_⟩;have hjl:j<r.length:=aa
   grind[nth.eq_1]
  .rintro⟨_,h3⟩;exact Decidable.byContradiction λhn=>h1 (by rw[<-g1];exact h3 i aa)
theorem Krn.add{S:Ve->Prop}(hu:Krn n S u)(hv:Krn n S v):Krn n S λi=>u i+v i:=
 ⟨λw hw=>by rw[xx,hu.1 w hw,hv.1 w hw];rfl,λj hj=>by show u j+v j=0;rw[hu.2 j hj,hv.2 j hj];rfl⟩
theorem Krn.mul{S:Ve->Prop}(k:Int)(hu:Krn n S u):Krn n S λi=>k*u i:=
 ⟨λw hw=>by rw[uV,hu.1 w hw,Int.mul_zero],λj hj=>by show k*u j=0;rw[hu.2 j hj,Int.mul_zero]⟩
theorem Krn.zero(n:Nat)(S:Ve->Prop):Krn n S λ_=>0:=⟨λw hw=>qE w n,λ_ _=>rfl⟩
theorem Krn.spn{S:Ve->Prop}:∀{l:List Ve},(∀g∈l,Krn n S g)->∀{v},Spn l v->Krn n S v:=λ{l} hl {v} hv=>by
 obtain⟨ks,rfl⟩:=hv
 induction l generalizing ks with
 |nil=>cases ks<;>exact Krn.zero n S
 | cons g l ih=>
  cases ks with
  |nil=>exact Krn.zero n S
  |cons k ks=>exact((hl g ac).mul k).add (ih (λx hx=>hl x (by grind)) ks)
theorem Hs(k:Nat):∀{l:List Ve}{v:Ve},Spn l v->Spn (l.map λg j=>g (k+j)) λj=>v (k+j):=λ{l v} hv=>by
 obtain⟨ks,rfl⟩:=hv;refine⟨ks,?_⟩
 induction l generalizing ks with
 |nil=>cases ks<;>rfl
 | cons g l ih=>
  cases ks with
  |nil=>rfl
  | cons k' ks=>
   grind[cmb]
def vS(k:Nat)(m:Mz):Mz:=(m.filter (BW k)).map (List.drop k)
theorem Rm(h:Ln (k+n) m):Ln n (vS k m):=by
 have:∀r∈vS k m,r.length=n:=λr hr=>by
  obtain⟨x,hx,rfl⟩:=Zw.1 hr;obtain⟨i,hi,rfl⟩:=Zf.1 (Xx.1 hx).1;have:=h i hi
  grind[nth.eq_1]
 intro i hi
 grind[nth.eq_1]
theorem II(n:Nat)(m:Mz):Ln (m.length+n) (lG n m):=λi hi=>by
 grind[tI,Kw]
theorem aal(H:Hm (m.length+n) (m.length+n) o L w)(e:SpE (lG n m) w)(v:Ve):SpZ (vS m.length (w.take o)) v↔Krn n (SpZ m) v:=by
 obtain⟨tl,H2,e2⟩:=zU H;have sp:∀u,SpZ (w.take o) u↔Wid n m u:=λu=>(((e.trans e2) u).symm).trans (G9 u)
 constructor
 .refine λh=>Krn.spn (λg hg=>?_) h
  obtain⟨r,hr,rfl⟩:=Zw.1 hg;obtain⟨x,hx,rfl⟩:=Zw.1 hr;obtain⟨hx,hb⟩:=Xx.1 hx;have hb:=((Ke _ _).1 hb).2;have hw:=(sp (ve x)).1 (Spn.mem (Zw.2 ⟨x,hx,rfl⟩));have ev:ve (x.drop m.length)=λc=>ve x (m.length+c):=funext λj=>Jj x m.length j
  rw[ev];refine⟨λu hu=>?_,λj hj=>hw.2 _ aa⟩;refine Dz (λg hg=>?_) hu;obtain⟨r,hr,rfl⟩:=Zw.1 hg;obtain⟨i,hi,rfl⟩:=Zf.1 hr;have e1:m[i]=nth [] m i:=by rw[nth,Z6,List.getElem?_eq_getElem hi];rfl
  rw[e1,<-hw.1 i hi];exact hb i hi
 .intro h
  let u:Ve:=λj=>if j<m.length then 0 else v (j-m.length)
  have hsh:(λj=>u (m.length+j))=v:=funext λj=>by
   grind
  have hw:Wid n m u:=by
   refine⟨λi hi=>?_,λj hj=>?_⟩
   .rw[hsh,h.1 _ (ik hi)]
    grind
   .show(if j<m.length then 0 else v (j-m.length))=0
    rw[if_neg aa];exact h.2 _ aa
  have h1:=(sp u).2 hw;rw[<-aiR H2 (Z8 _)]at h1;have h2:=yG (tu H2 o 0 0 aa (λ_=>Y7 _)) m.length h1 (λj hj=>if_pos hj);have h3:=Hs m.length h2;rw[hsh]at h3;refine Spn.le (λg hg=>?_) h3;obtain⟨g',hg',rfl⟩:=Zw.1 hg;obtain⟨x,hx,rfl⟩:=Zw.1 hg';obtain⟨hx,hk⟩:=Xx.1 hx;obtain⟨i,_,hi,rfl⟩:=uI hx
  have hk:m.length<=L i:=by simpa using hk
  have hi':i<(w.take o).length:=aa;refine Spn.mem (Zw.2 ⟨(nth [] (w.take o) i).drop m.length,?_,funext λj=>Jj _ _ _⟩);refine Zw.2 ⟨_,Xx.2 ⟨?_,(Ke _ _).2 ⟨⟨L i,?_⟩,λj hj=>H2.low i aa j aa⟩⟩,rfl⟩
  .grind[nth.eq_1]
  .have:=H2.pos i aa
   grind
theorem aey(n:Nat):Hm n n 0 (λ_=>0) []:=
 have z:∀{i:Nat}{P:Prop},i<0->P:=λh=>absurd h (Nat.not_lt_zero _)
 ⟨Z8 _,λi hi=>z hi,λi hi=>z hi,λi j _ hj=>z hj,λi hi=>z hi,λi hi=>z hi,λi j _ hj=>z hj,λk _ hk=>z hk⟩
theorem Ii{B:Nat}(hl:Ln n m)(h:qU B f n m=some (o,w)):(∃L,Hm n n (w.take o).length L (w.take o))∧SpE m (w.take o):=by
 obtain⟨⟨L,H⟩,e,_⟩:=Dw hl h;obtain⟨tl,H2,e2⟩:=zU H
 grind[SpE.trans]
theorem zM{B:Nat}(h:uO B f n m=some z):(∃L,Hm n n z.length L z)∧∀v,SpZ z v↔Krn n (SpZ m) v:=by
 unfold uO at h;split at h
 .rename_i o w hw;obtain⟨⟨L,H⟩,e,_⟩:=Dw (II n m) hw;have bs:=aal H e;have ln:=Rm (zU H).2.1.ln
  have hb:aam B f m.length n (w.take o)=if vS m.length (w.take o)=[]then some []else match qU B f n (vS m.length (w.take o))with
   |some (o,w)=>some (w.take o)
   |none=>none:=rfl
  rw[hb]at h;split at h
  .rename_i h0;cases h;rw[h0]at bs;exact⟨⟨λ_=>0,aey n⟩,bs⟩
  .split at h
   .rename_i o2 w2 hf;cases h;obtain⟨H3,e3⟩:=Ii ln hf;exact⟨H3,λv=>((e3 v).symm).trans (bs v)⟩
   .cases h
 .cases h
def dU:LnQ->Ve->Ve->Int
 |[],_,_=>0
 |i::us,e,x=>e i*x i+dU us e x
theorem OM(a b:Int)(e f x:Ve):∀us,dU us (λi=>a*e i-b*f i) x=a*dU us e x-b*dU us f x
 |[]=>by simp[dU]
 |i::us=>by simp only[dU,OM a b e f x us];grind
theorem ZJ(a:Int)(e x:Ve):∀us,dU us e (λi=>a*x i)=a*dU us e x
 |[]=>by simp[dU]
 |i::us=>by simp only[dU,ZJ a e x us];grind
theorem FX{e x y:Ve}:∀{us},(∀i∈us,x i=y i)->dU us e x=dU us e y
 |[],_=>rfl
 |i::us,h=>by simp only[dU,h i ac,FX (us:=us) λj hj=>h j (by grind)]
theorem Ap{e x:Ve}:∀{us},(∀i∈us,e i*x i=0)->dU us e x=0
 |[],_=>rfl
 |i::us,h=>by simp only[dU,h i ac,Ap (us:=us) λj hj=>h j (by grind)];rfl
theorem ado{e x:Ve}:∀{us},dU us e x≠0->∃i∈us,e i*x i≠0
 |[],h=>absurd rfl h
 | i::us,h=>by
  by_cases h1:e i*x i=0
  .simp only[dU,h1,Int.zero_add]at h;obtain⟨j,hj,h2⟩:=ado h
   grind
  .exact⟨i,ac,h1⟩
theorem qG{e x:Ve}{j:Nat}:∀{us:LnQ},j∈us->dU us e x=e j*x j+dU (us.erase j) e x
 | i::us,h=>by
  by_cases hi:i=j
  .subst hi;rw[List.erase_cons_head];rfl
  ·have hj:j∈us:=by
    rcases Zy.1 h with h|h
    .omega
    .exact h
   rw[List.erase_cons_tail (by grind)];simp only[dU,qG hj];omega
theorem ZK{e x:Ve}{A S:Nat}:∀{us:LnQ},(∀i∈us,(e i).natAbs<=A)->(∀i∈us,(x i).natAbs<=S)->(dU us e x).natAbs<=us.length*(A*S)
 |[],_,_=>by simp[dU]
 | i::us,h1,h2=>by
  have ih:=ZK (us:=us) (λj hj=>h1 j (by grind)) (λj hj=>h2 j (by grind));have a1:=X7 (e i*x i) (dU us e x);rw[Zm]at a1;have a2:=Zu (h1 i ac) (h2 i ac)
  grind[dU,Nat.add_mul]
def slB:Nat->Nat->Nat
 |0,_=>0
 |1,_=>1
 |u+2,A=>(u+1)*A*slB (u+1) (2*A*A)
theorem Pz:∀(u:Nat){A:Nat},1<=A->1<=slB (u+1) A
 |0,A,h=>by simp[slB]
 | u+1,A,h=>by
  have h2:1*1<=A*A:=Zu h h;have h1:=Pz u (A:=2*A*A) (by grind);have h3:1*1*1<=(u+1)*A*slB (u+1) (2*A*A):=Zu (Zu aa h) h1;trivial
theorem slv:∀(k:Nat)(us:LnQ),us.length=k->us.Nodup->∀(A:Nat),1<=A->∀(es:List Ve)(l x:Ve),(∀e∈es,∀i∈us,(e i).natAbs<=A)->(∀e∈es,dU us e x=0)->dU us l x≠0 ->
  ∃y:Ve,(∀e∈es,dU us e y=0)∧dU us l y≠0∧(∀i,(y i).natAbs<=slB us.length A)∧∀i,i ∉ us->y i=0
 | 0,us,hk,hn,A,hA,es,l,x,hb,h0,hl=>by
  rw[Yg.1 hk]at hl;trivial
 | k+1,us,hk,hn,A,hA,es,l,x,hb,h0,hl=>by
  by_cases all:∀e∈es,∀i∈us,e i=0
  .obtain⟨i,hi,h1⟩:=ado hl
   refine ⟨λt=>if t=i then 1 else 0,λe he=>Ap λt ht=>by rw[all e he t ht,Int.zero_mul],?_,λt=>?_,λt ht=>by
    grind⟩
   .rw[qG hi,Ap (us:=us.erase i)]
    .rw[if_pos rfl,Int.mul_one,Int.add_zero];exact λh=>h1 (by rw[h,Int.zero_mul])
    grind
   grind[Pz]
  ·obtain ⟨e1,he1,j,hj,ha⟩:∃e1,e1∈es∧∃j,j∈us∧e1 j≠0:=by
    grind
   have hk2:(us.erase j).length=k:=by rw[List.length_erase_of_mem hj];omega
   have hn2:(us.erase j).Nodup:=hn.erase j;have hsub:∀i∈us.erase j,i∈us∧i≠j:=λi hi=>⟨(hn.mem_erase_iff.1 hi).2,(hn.mem_erase_iff.1 hi).1⟩
   have hA2:1*1<=A*A:=Zu hA hA
   have hred:∀e:Ve,dU (us.erase j) (λi=>e1 j*e i-e j*e1 i) x=e1 j*dU us e x-e j*dU us e1 x:=λe=>by
    rw[OM,qG (e:=e) hj,qG (e:=e1) hj]
    grind
   obtain ⟨y,y1,y2,y3,y4⟩:=slv k (us.erase j) hk2 hn2 (2*A*A) (by grind) (es.map λe i=>e1 j*e i-e j*e1 i) (λi=>e1 j*l i-l j*e1 i) x (λe' he' i hi=>by
     obtain⟨e,he,rfl⟩:=Zw.1 he';obtain⟨hi,_⟩:=hsub i hi
     show(e1 j*e i-e j*e1 i).natAbs<=_
     have b1:=Int.natAbs_sub_le (e1 j*e i) (e j*e1 i);rw[Zm,Zm]at b1;have b2:=Zu (hb e1 he1 j hj) (hb e he i hi);have b3:=Zu (hb e he j hj) (hb e1 he1 i hi)
     grind) (λe' he'=>by
     grind) (by
     simp_all)
   have hval:∀e:Ve,dU us e (λt=>if t=j then -dU (us.erase j) e1 y else e1 j*y t)=dU (us.erase j) (λi=>e1 j*e i-e j*e1 i) y:=λe=>by
    rw[qG hj,if_pos rfl,OM,FX (y:=λt=>e1 j*y t) (λt ht=>if_neg (hsub t ht).2),ZJ]
    grind
   refine⟨_,λe he=>(hval e).trans (y1 _ (Zw.2 ⟨e,he,rfl⟩)),by grind,λt=>?_,λt ht=>?_⟩
   .cases k with
    | zero=>
     rw[Yg.1 hk2]at y2;trivial
    | succ u=>
     rw[hk]
     show(if t=j then -dU (us.erase j) e1 y else e1 j*y t).natAbs<=(u+1)*A*slB (u+1) (2*A*A)
     rw[hk2]at y3;split
     .rw[Xh,Nat.mul_assoc];have:=ZK (us:=us.erase j) (e:=e1) (x:=y) (λi hi=>hb e1 he1 i (hsub i hi).1) (λi _=>y3 i)
      grind
     .rw[Zm,Nat.mul_assoc];have b1:=Zu (hb e1 he1 j hj) (y3 t)
      grind
   grind
theorem Eg{m:List (Nat×Ve)}(h:Spn (vs m) v):Spn (vs (x::m)) v:=
 Spn.le (λg hg=>Spn.mem (by grind[vs])) h
theorem JK:∀{m:List (Nat×Ve)}{o:Nat},Hnf o m->∀(u:Ve),∃(D:Int)(s:Ve),D≠0∧Spn (vs m) s∧∀y∈m,D*u y.1-s y.1=0
 |[],o,H,u=>⟨1,λ_=>0,aa,Spn.zero _,λy hy=>by cases hy⟩
 | (l,h)::m,o,⟨⟨a,b,c⟩,d,r⟩,u=>by
  obtain⟨D,s,h1,h2,h3⟩:=JK r (λi=>h l*u i-u l*h i);refine⟨D*h l,λi=>D*u l*h i+s i,Xy h1 aa,((Spn.mem (by simp[vs])).mul _).add (Eg h2),λy hy=>?_⟩;rcases Zy.1 hy with rfl|hy
  .have:s l=0:=rE r h2 l aa
   grind
  grind
theorem zS:∀{m:List (Nat×Ve)}{o:Nat},Hnf o m->∀x∈m,∃v,Spn (vs m) v∧v x.1≠0∧(∀j,j<x.1->v j=0)∧∀y∈m,y.1≠x.1->v y.1=0
 | (l,h)::m,o,H,x,hx=>by
  have H':=H;obtain⟨⟨a,b,c⟩,d,r⟩:=H';rcases Zy.1 hx with rfl|hx
  .obtain⟨D,s,h1,h2,h3⟩:=JK r h;have z:∀j,j<=l->s j=0:=λj hj=>rE r h2 j aa
   refine⟨λi=>D*h i-s i,((Spn.mem (by simp[vs])).mul D).sub (Eg h2),?_,λj hj=>?_,λy hy hne=>?_⟩
   .show D*h l-s l≠0
    rw[z l (Z8 _),Int.sub_zero];exact Xy h1 aa
   .show D*h j-s j=0
    rw[z j aa,c j hj];simp
   grind
  .obtain⟨v,v1,v2,v3,v4⟩:=zS r x hx;have:=yF r x hx;refine⟨v,Eg v1,v2,v3,λy hy hne=>?_⟩;rcases Zy.1 hy with rfl|hy
   .exact v3 l aa
   grind
theorem QD:∀{m:List (Nat×Ve)}{o:Nat},Hnf o m->∀x∈m,∀z∈m,(x.2 z.1).natAbs<=(z.2 z.1).natAbs
 | (l,h)::m,o,⟨⟨a,b,c⟩,d,r⟩,x,hx,z,hz=>by
  rcases Zy.1 hx with rfl|hx
  .rcases Zy.1 hz with rfl|hz
   .omega
   grind
  .rcases Zy.1 hz with rfl|hz
   .have:x.2 l=0:=rE r (Spn.mem (Zw.2 ⟨x,hx,rfl⟩)) l aa
    grind
   .exact QD r x hx z hz
theorem ZY{m:List (Nat×Ve)}{o S:Nat}(H:Hnf o m)(w:Nat->Ve)(hw:∀x∈m,Spn (vs m) (w x.1)∧w x.1 x.1≠0∧(∀y∈m,y.1≠x.1->w x.1 y.1=0)∧∀j,(w x.1 j).natAbs<=S) :
  ∀(J:List (Nat×Ve)),(∀x∈J,x∈m)->∀(c:Nat)(u:Ve),Spn (vs m) u->(∀y∈m,y ∉ J->u y.1=0)->(∀y∈J,(u y.1).natAbs<=c*(w y.1 y.1).natAbs)->∀j,(u j).natAbs<=c*(J.length*S)
 | [],_,c,u,hu,hz,_,j=>by
  rcases qD H hu with h|⟨x,hx,_,h,_⟩
  .grind
  .exact absurd (hz x hx ac) h
 | x::J,hJ,c,u,hu,hz,hb,j=>by
  obtain⟨w1,w2,w3,w4⟩:=hw x (hJ x ac)
  have ih:=ZY H w hw J (λy hy=>hJ y (by grind)) (c*(w x.1 x.1).natAbs) (λi=>w x.1 x.1*u i-u x.1*w x.1 i) ((hu.mul _).sub (w1.mul _)) (λy hy hn=>by
   by_cases e:y.1=x.1
   .grind
   .show w x.1 x.1*u y.1-u x.1*w x.1 y.1=0
    rw [w3 y hy e,hz y hy (λh=>by
     rcases Zy.1 h with h|h
     .exact e (by rw[h])
     trivial)]
    simp) (λy hy=>by
   show(w x.1 x.1*u y.1-u x.1*w x.1 y.1).natAbs<=_
   by_cases e:y.1=x.1
   .rw[e,show w x.1 x.1*u x.1-u x.1*w x.1 x.1=0 by grind];simp
   .rw[w3 y (hJ y (by grind)) e,Int.mul_zero,Int.sub_zero,Zm];have:=Z1 (w x.1 x.1).natAbs (hb y (by grind))
    grind) j
  have h1:((w x.1 x.1)*u j).natAbs<=(w x.1 x.1*u j-u x.1*w x.1 j).natAbs+(u x.1*w x.1 j).natAbs:=by
   have:=X7 (w x.1 x.1*u j-u x.1*w x.1 j) (u x.1*w x.1 j)
   rwa [Int.sub_add_cancel]at this
  rw[Zm,Zm (u x.1)]at h1;have h2:=Zu (hb x ac) (w4 j)
  have h3:(w x.1 x.1).natAbs*(u j).natAbs<=(w x.1 x.1).natAbs*(c*((x::J).length*S)):=by
   calc (w x.1 x.1).natAbs*(u j).natAbs<=c*(w x.1 x.1).natAbs*(J.length*S)+c*(w x.1 x.1).natAbs*S:=Z4 h1 (Nat.add_le_add ih h2)
    _=(w x.1 x.1).natAbs*(c*((x::J).length*S)):=by grind
  exact Nat.le_of_mul_le_mul_left h3 (Int.natAbs_pos.2 w2)
theorem ZZ{m:List (Nat×Ve)}{S:Nat}(H:Hnf o m)(hw:∀x∈m,∃v,Spn (vs m) v∧v x.1≠0∧(∀y∈m,y.1≠x.1->v y.1=0)∧∀j,(v j).natAbs<=S):∀x∈m,∀j,(x.2 j).natAbs<=m.length*S:=by
 intro x hx j
 let P:Nat->Ve->Prop:=λl v=>Spn (vs m) v∧v l≠0∧(∀y∈m,y.1≠l->v y.1=0)∧∀j,(v j).natAbs<=S
 let w:Nat->Ve:=λl=>Classical.epsilon (P l)
 have hP:∀y∈m,P y.1 (w y.1):=λy hy=>Classical.epsilon_spec (hw y hy)
 have:=ZY H w hP m (λy hy=>hy) 1 x.2 (Spn.mem (Zw.2 ⟨x,hx,rfl⟩)) (λy hy hn=>absurd hy hn) (λy hy=>by
  obtain⟨p1,p2,p3,p4⟩:=hP y hy;rcases qD H p1 with h|⟨z,hz,z1,z2,z3⟩
  .grind
  .have e:z.1=y.1:=Classical.byContradiction λhn=>z2 (p3 z hz hn)
   have h1:=QD H x hx z hz;rw[<-e,W8];refine Z4 h1 ?_;rw[<-e]at z2 z3;exact Wx aa (Int.natAbs_dvd_natAbs.2 z3)) j
 omega
theorem ZL(e x:Ve):∀us ws,dU (us++ws) e x=dU us e x+dU ws e x
 |[],ws=>by simp[dU]
 |i::us,ws=>by simp only[List.cons_append,dU,ZL e x us ws];omega
theorem nP(e x:Ve):∀n,dtV n e x=dU (List.range n) e x
 |0=>rfl
 |n+1=>by rw[Wg,ZL,<-nP e x n];simp[dU,dtV]
theorem ers:∀(os us:LnQ),us.Nodup->os.Nodup->(∀c∈os,c∈us)->(os.foldl List.erase us).Nodup∧(os.foldl List.erase us).length+os.length=us.length∧∀c,c∈os.foldl List.erase us↔c∈us∧c ∉ os
 |[],us,h1,h2,h3=>⟨h1,rfl,λc=>by simp⟩
 | a::os,us,h1,h2,h3=>by
  rw[Xo]at h2;obtain⟨i1,i2,i3⟩:=ers os (us.erase a) (h1.erase a) h2.2 (λc hc=>h1.mem_erase_iff.2 ⟨λe=>h2.1 (e▸hc),h3 c (by grind)⟩)
  grind
theorem ON{e x:Ve}:∀{os us:LnQ},us.Nodup->os.Nodup->(∀c∈os,c∈us)->(∀c∈os,x c=0)->dU (os.foldl List.erase us) e x=dU us e x
 |[],us,_,_,_,_=>rfl
 | a::os,us,h1,h2,h3,h4=>by
  rw[Xo]at h2;have ha:=h3 a ac;simp only[List.foldl_cons];rw[ON (h1.erase a) h2.2 (λc hc=>h1.mem_erase_iff.2 ⟨λe=>h2.1 (e▸hc),h3 c (by grind)⟩) (λc hc=>h4 c (by grind)),qG (us:=us) ha,h4 a ac];simp
theorem Q8{x:Ve}{us:LnQ}(hj:j∈us)(hn:us.Nodup):dU us (λc=>if c=j then 1 else 0) x=x j:=by
 rw[qG hj,Ap (us:=us.erase j)]
 .simp
 grind
def leads(m:List (Nat×Ve)):LnQ:=m.map (·.1)
theorem wM:∀{m:List (Nat×Ve)}{o:Nat},Hnf o m->(leads m).Nodup
 |[],_,_=>List.nodup_nil
 | (l,h)::m,o,H=>by
  refine Xo.2 ⟨λhl=>?_,wM H.2.2⟩;obtain⟨x,hx,e⟩:=Zw.1 hl;have:=yF H.2.2 x hx
  grind
theorem VG{m:List (Nat×Ve)}(H:Hnf o m)(hn:∀x∈m,x.1<n)(hx:x∈m):∃os:LnQ,os.Nodup∧os.length+1=m.length∧(∀c∈os,c<n)∧(∀c,c∈os↔(∃y∈m,y.1=c)∧c≠x.1):=by
 have hd:=wM H;have hm:x.1∈leads m:=Zw.2 ⟨x,hx,rfl⟩;refine⟨(leads m).erase x.1,hd.erase _,?_,λc hc=>?_,λc=>?_⟩
 .grind[leads]
 .obtain⟨y,hy,rfl⟩:=Zw.1 (hd.mem_erase_iff.1 hc).2
  grind
 grind[leads]
theorem xp{m:List (Nat×Ve)}(H:Hnf o m)(hn:∀x∈m,x.1<n):m.length<=n:=by
 obtain ⟨_,h,_⟩:=ers (leads m) (List.range n) W0 (wM H) (λc hc=>by
  obtain⟨x,hx,rfl⟩:=Zw.1 hc
  grind)
 grind[leads]
theorem TN(hl:Ln n m)(hj:n<=j):eZ m i j=0:=by
 by_cases hi:i<m.length
 .have:=hl i hi;rw[eZ,nth,Z6,List.getElem?_eq_none aa];rfl
 .rw[eZ,show nth [] m i=[] by rw[nth,Z6,List.getElem?_eq_none aa];rfl];rfl
theorem aeu(h:∀i,i<m.length->dtV n (ve (nth [] m i)) v=0)(h0:∀j,n<=j->v j=0):Krn n (SpZ m) v:=by
 refine⟨λu hu=>Dz (λg hg=>?_) hu,h0⟩;obtain⟨r,hr,rfl⟩:=Zw.1 hg;obtain⟨i,hi,rfl⟩:=Zf.1 hr;have e1:m[i]=nth [] m i:=by rw[nth,Z6,List.getElem?_eq_getElem hi];rfl
 grind
theorem Ou(H:Hnf o C)(hs:∀v,Spn (vs C) v↔Krn n (SpZ m) v)(hA:1<=A)(hb:BdE A m):∀x∈C,∀j,(x.2 j).natAbs<=C.length*slB (n+1-C.length) A:=by
 have hk:∀x∈C,Krn n (SpZ m) x.2:=λx hx=>(hs _).1 (Spn.mem (Zw.2 ⟨x,hx,rfl⟩))
 have hp:∀{C:List (Nat×Ve)}{o:Nat},Hnf o C->∀x∈C,0<x.2 x.1:=by
  intro C
  induction C with
  |nil=>simp
  | cons y C ih=>
   intro o H x hx;obtain⟨l,h⟩:=y;rcases Zy.1 hx with rfl|hx
   .exact H.1.2.1
   .exact ih H.2.2 x hx
 have hn:∀x∈C,x.1<n:=λx hx=>Decidable.byContradiction λh=>by
  have h1:=(hk x hx).2 x.1 aa
  grind
 refine ZZ H λx hx=>?_
 obtain⟨v,v1,v2,v3,v4⟩:=zS H x hx;obtain⟨os,o1,o2,o3,o4⟩:=VG H hn hx;have osr:∀c∈os,c∈List.range n:=λc hc=>Xi.2 (o3 c hc)
 obtain⟨u1,u2,u3⟩:=ers os (List.range n) W0 o1 osr;have hxu:x.1∈os.foldl List.erase (List.range n):=(u3 _).2 ⟨Xi.2 (hn x hx),λh=>((o4 _).1 h).2 rfl⟩
 have vz:∀c∈os,v c=0:=λc hc=>by
  grind
 obtain ⟨y,y1,y2,y3,y4⟩:=slv _ _ rfl u1 A hA (m.map ve) (λc=>if c=x.1 then 1 else 0) v (λe he i _=>by
  obtain⟨r,hr,rfl⟩:=Zw.1 he;obtain⟨k,hk,rfl⟩:=Zf.1 hr;have e1:m[k]=nth [] m k:=by rw[nth,Z6,List.getElem?_eq_getElem hk];rfl
  rw[e1];exact hb k i) (λe he=>by
  rw[ON W0 o1 osr vz,<-nP];exact((hs v).1 v1).1 e (Spn.mem he)) (by grind[Q8])
 rw[Q8 hxu u1]at y2;have yz:∀c∈os,y c=0:=λc hc=>y4 c λh=>((u3 c).1 h).2 hc
 refine⟨y,(hs y).2 (aeu (λi hi=>?_) λj hj=>y4 j λh=>?_),y2,λz hz hne=>yz z.1 ((o4 _).2 ⟨⟨z,hz,rfl⟩,hne⟩),?_⟩
 .rw[nP,<-ON W0 o1 osr yz]
  grind[nth.eq_1]
 .grind
 ·have e:(os.foldl List.erase (List.range n)).length=n+1-C.length:=by
   rw[List.length_range]at u2;omega
  grind
theorem KZ(h:SpZ m v):∃X:Ve,∀c,v c=dtV m.length (λk=>eZ m k c) X:=by
 have key:∀(l:List Ve),(∀g∈l,∃X:Ve,∀c,g c=dtV m.length (λk=>eZ m k c) X)->∀ks,∃X:Ve,∀c,cmb ks l c=dtV m.length (λk=>eZ m k c) X:=by
  intro l
  induction l with
  |nil=>intro _ ks;exact⟨λ_=>0,λc=>by cases ks<;>exact(qE _ _).symm⟩
  | cons g l ih=>
   intro hg ks;cases ks with
   |nil=>exact⟨λ_=>0,λc=>(qE _ _).symm⟩
   | cons k ks=>
    obtain⟨X,hX⟩:=hg g ac;obtain⟨Y,hY⟩:=ih (λx hx=>hg x (by grind)) ks;refine⟨λi=>k*X i+Y i,λc=>?_⟩;rw[xx,uV,<-hX,<-hY];rfl
 obtain⟨ks,rfl⟩:=h;refine key _ (λg hg=>?_) ks;obtain⟨r,hr,rfl⟩:=Zw.1 hg;obtain⟨i,hi,rfl⟩:=Zf.1 hr;have e1:m[i]=nth [] m i:=by rw[nth,Z6,List.getElem?_eq_getElem hi];rfl
 refine⟨λj=>if j=i then 1 else 0,λc=>?_⟩;rw[Aj,if_pos hi,e1];rfl
theorem M2{m:Mz}(X:Ve):∀r,r<=m.length->SpZ m λc=>dtV r (λk=>eZ m k c) X
 |0,_=>Spn.zero _
 | r+1,hr=>by
  have h1:=(M2 (m:=m) X r aa).add ((ik (m:=m) (i:=r) aa).mul (X r))
  have e:(λc=>dtV r (λk=>eZ m k c) X+X r*ve (nth [] m r) c)=λc=>dtV (r+1) (λk=>eZ m k c) X:=funext λc=>by
   show _+X r*eZ m r c=_+eZ m r c*X r
   grind
  rwa [e]at h1
theorem Px(H:Hnf o C)(h1:∀v,SpZ m v->Spn (vs C) v)(h2:∀v,Spn (vs C) v->∃D:Int,D≠0∧SpZ m λi=>D*v i)(hA:1<=A)(hb:BdE A m):
  ∀x∈C,∀j,(x.2 j).natAbs<=C.length*(m.length*(A*slB m.length A)):=by
 refine ZZ H λx hx=>?_
 obtain⟨v,v1,v2,v3,v4⟩:=zS H x hx;obtain⟨D,d1,d2⟩:=h2 v v1;obtain⟨X,hX⟩:=KZ d2
 obtain ⟨os,o1,o2,o3,o4⟩:=VG (n:=(C.map (·.1)).sum+1) H (λy hy=>by
  have:∀(l:LnQ) a,a∈l->a<=l.sum:=by
   intro l
   induction l with
   |nil=>trivial
   | cons b l ih=>
    grind
  have:=this _ _ (Zw.2 ⟨y,hy,rfl⟩:y.1∈C.map (·.1));omega) hx
 have dz:∀c,D*v c=dU (List.range m.length) (λk=>eZ m k c) X:=λc=>by grind[nP]
 obtain ⟨y,y1,y2,y3,y4⟩:=slv m.length (List.range m.length) List.length_range W0 A hA (os.map λc k=>eZ m k c) (λk=>eZ m k x.1) X (λe he i _=>by
  obtain⟨c,hc,rfl⟩:=Zw.1 he;exact hb i c) (λe he=>by
  obtain⟨c,hc,rfl⟩:=Zw.1 he;obtain⟨⟨z,hz,rfl⟩,hne⟩:=(o4 c).1 hc
  grind) (by grind[Xy])
 refine⟨λc=>dtV m.length (λk=>eZ m k c) y,h1 _ (M2 y m.length (Z8 _)),?_,λz hz hne=>?_,λj=>?_⟩
 .grind[nP]
 .grind[nP]
 .show(dtV m.length (λk=>eZ m k j) y).natAbs<=_
  rw[nP];rw[List.length_range]at y3;have:=ZK (us:=List.range m.length) (e:=λk=>eZ m k j) (x:=y) (λi _=>hb i j) (λi _=>y3 i)
  grind
theorem XB{n f:Nat}:∀{C:List (Nat×Ve)}{o:Nat},Hnf o C->(∀x∈C,x.1<n)->f<n->(∀x∈C,x.1≠f)->∃k:Ve,k f≠0∧(∀x∈C,dtV n x.2 k=0)∧∀j,j≠f->(∀x∈C,x.1≠j)->k j=0
 |[],o,H,hn,hf,hne=>⟨λj=>if j=f then 1 else 0,ac,λx hx=>absurd hx Yv,λj hj _=>if_neg hj⟩
 | (l,h)::C,o,⟨⟨a,b,c⟩,d,r⟩,hn,hf,hne=>by
  obtain⟨k,k1,k2,k3⟩:=XB r (λx hx=>hn x (by grind)) hf (λx hx=>hne x (by grind));have hl:=hn (l,h) ac;have hlf:=hne (l,h) ac
  have dt:∀g:Ve,dtV n g (λj=>h l*k j + -(dtV n h k)*(if j=l then 1 else 0))=h l*dtV n g k-dtV n h k*g l:=λg=>by
   rw[xx,uV,uV,Aj,if_pos hl,Int.neg_mul];omega
  refine⟨λj=>h l*k j + -(dtV n h k)*(if j=l then 1 else 0),?_,λx hx=>?_,λj hj hx=>?_⟩
  .show h l*k f + -(dtV n h k)*(if f=l then 1 else 0)≠0
   rw[if_neg (λe=>hlf e.symm),Int.mul_zero,Int.add_zero];exact Xy aa k1
  .rw[dt];rcases Zy.1 hx with rfl|hx
   .grind
   .have:x.2 l=0:=rE r (Spn.mem (Zw.2 ⟨x,hx,rfl⟩)) l aa
    grind
  .show h l*k j + -(dtV n h k)*(if j=l then 1 else 0)=0
   rw[if_neg (λe=>hx (l,h) ac e.symm),k3 j hj (λy hy=>hx y (by grind))];simp
theorem XA{S:Ve->Prop}(H:Hnf o C)(hn:∀x∈C,x.1<n)(hs:∀v,Spn (vs C) v↔S v)(hS:∀u,S u->∀j,n<=j->u j=0)(hu:Krn n (Krn n S) u):∃D:Int,D≠0∧S λi=>D*u i:=by
 obtain⟨D,s,h1,h2,h3⟩:=JK H u;have hsS:=(hs s).1 h2;have hsk:Krn n (Krn n S) s:=⟨λw hw=>by rw[qF];exact hw.1 s hsS,hS s hsS⟩;have hd:Krn n (Krn n S) λi=>D*u i + -1*s i:=(hu.mul D).add (hsk.mul (-1))
 have hz:∀f,D*u f + -1*s f=0:=λf=>by
  by_cases hf:f<n
  .by_cases hl:∃x∈C,x.1=f
   .grind
   .obtain⟨k,k1,k2,k3⟩:=XB H hn hf (λx hx e=>hl ⟨x,hx,e⟩)
    let k':Ve:=λj=>if j<n then k j else 0
    have dk:∀g:Ve,dtV n g k'=dtV n g k:=λg=>by
     grind[nP,FX]
    have hk:Krn n S k':=⟨λw hw=>by
     grind[Dz,vs],λj hj=>if_neg aa⟩
    have h4:=hd.1 k' hk
    have hval:dtV n k' (λi=>D*u i + -1*s i)=k f*(D*u f + -1*s f):=by
     have hfr:f∈List.range n:=Xi.2 hf;rw[nP,qG hfr,Ap (us:=(List.range n).erase f)]
     .grind
     .intro t ht;obtain⟨t1,t2⟩:=W0.mem_erase_iff.1 ht;by_cases hx:∃x∈C,x.1=t
      .obtain⟨x,hx,rfl⟩:=hx;have:=h3 x hx;rw[show D*u x.1 + -1*s x.1=0 by omega,Int.mul_zero]
      grind
    grind[Int.mul_eq_zero]
  .have a1:=hu.2 f aa;have a2:=hS s hsS f aa
   grind
 refine⟨D,h1,?_⟩;have e:(λi=>D*u i)=s:=funext λi=>by grind
 grind
theorem Rf{B:Nat}:∀(r:Nat){f g c o:Nat}{m:Mz}{x:Nat×Mz},clZ B f r c o m=some x->f<=g->clZ B g r c o m=some x
 |0,f,g,c,o,m,x,h,_=>h
 | r+1,f,g,c,o,m,x,h,hg=>by
  have h2:pi [] (λr=>r) (λ_ r=>r) B f (r+1) c o m=some x:=h
  show pi [] (λr=>r) (λ_ r=>r) B g (r+1) c o m=some x
  simp only[pi]at h2 ⊢;split at h2
  .rename_i ho;rw[if_pos ho];split at h2
   .rename_i o1 m1 hr;have hr2:m8 [] (λr=>r) (λ_ r=>r) B c g o m=some (o1,m1):=I9 f g hr hg;rw[hr2];exact Rf r h2 hg
   trivial
  grind
theorem BH{B:Nat}{x:Nat×Mz}(h:qU B f c m=some x)(hg:f<=g):qU B g c m=some x:=Rf c h hg
theorem Fj{B:Nat}(h:uO B f n m=some z)(hg:f<=g):uO B g n m=some z:=by grind[uO,BH,aam]
def shC(k:Nat)(m:List (Nat×Ve)):List (Nat×Ve):=(m.filter λx=>decide (k<=x.1)).map λx=>(x.1-k,λj=>x.2 (k+j))
theorem XQ(k:Nat):∀{m:List (Nat×Ve)}{o:Nat},Hnf o m->Hnf (o-k) (shC k m)
 |[],o,H=>trivial
 | (l,h)::m,o,⟨⟨a,b,c⟩,d,r⟩=>by
  have ih:=XQ k r;by_cases hk:k<=l
  .have e:shC k ((l,h)::m)=(l-k,λj=>h (k+j))::shC k m:=by simp[shC,List.filter_cons,hk]
   rw[e];refine⟨⟨aa,?_,λj hj=>c _ aa⟩,λx hx=>?_,?_⟩
   .show 0<h (k+(l-k))
    rw[show k+(l-k)=l by omega];exact b
   .obtain⟨y,hy,rfl⟩:=Zw.1 hx;obtain⟨hy,hky⟩:=Xx.1 hy;have hky:k<=y.1:=by simpa using hky
    show 0<=h (k+(y.1-k))∧h (k+(y.1-k))<y.2 (k+(y.1-k))
    rw[show k+(y.1-k)=y.1 by omega]
    grind
   .rw[show l+1-k=l-k+1 by omega]at ih;exact ih
  .have e:shC k ((l,h)::m)=shC k m:=by simp[shC,List.filter_cons,hk]
   rw[e];exact XP aa ih
theorem xr{L:Nat->Nat}{m:Mz}:∀{r i k:Nat},i<=k->k<i+r->(L k,ve (nth [] m k))∈ldZ L m r i
 |0,i,k,a,b=>by omega
 | r+1,i,k,a,b=>by
  by_cases e:k=i
  .grind[ldZ]
  .exact List.mem_cons_of_mem _ (xr aa aa)
theorem acH(H:Hm (m.length+n) (m.length+n) o L w)(e:SpE (lG n m) w):
  ∃C,Hnf 0 C∧(∀v,Spn (vs C) v↔Krn n (SpZ m) v)∧∀r∈vS m.length (w.take o),∃x∈C,ve r=x.2:=by
 obtain⟨tl,H2,e2⟩:=zU H;have sp:∀u,SpZ (w.take o) u↔Wid n m u:=λu=>(((e.trans e2) u).symm).trans (G9 u)
 have hh:=tu H2 o 0 0 aa (λ_=>Y7 _);refine⟨shC m.length (ldZ L (w.take o) o 0),by have:=XQ m.length hh;grind,λv=>?_,λr hr=>?_⟩
 .constructor
  .refine λh=>Krn.spn (λg hg=>?_) h
   obtain⟨x',hx',rfl⟩:=Zw.1 hg;obtain⟨x,hx,rfl⟩:=Zw.1 hx';obtain⟨hx,hk⟩:=Xx.1 hx;have hk:m.length<=x.1:=by simpa using hk
   obtain⟨i,_,hi,rfl⟩:=uI hx;have hw:=(sp (ve (nth [] (w.take o) i))).1 (ik aa);refine⟨λu hu=>?_,λj hj=>hw.2 _ aa⟩;refine Dz (λg hg=>?_) hu;obtain⟨r,hr,rfl⟩:=Zw.1 hg;obtain⟨k,hk2,rfl⟩:=Zf.1 hr;have e1:m[k]=nth [] m k:=by rw[nth,Z6,List.getElem?_eq_getElem hk2];rfl
   rw[e1,<-hw.1 k hk2];have hk:m.length<=L i:=hk;exact H2.low i aa k aa
  .intro h
   let u:Ve:=λj=>if j<m.length then 0 else v (j-m.length)
   have hsh:(λj=>u (m.length+j))=v:=funext λj=>by
    grind
   have hw:Wid n m u:=by
    refine⟨λi hi=>?_,λj hj=>?_⟩
    .rw[hsh,h.1 _ (ik hi)]
     grind
    .show(if j<m.length then 0 else v (j-m.length))=0
     rw[if_neg aa];exact h.2 _ aa
   have h1:=(sp u).2 hw;rw[<-aiR H2 (Z8 _)]at h1;have h2:=yG hh m.length h1 (λj hj=>if_pos hj);have h3:=Hs m.length h2;rw[hsh]at h3
   have e3:(vs ((ldZ L (w.take o) o 0).filter λx=>decide (m.length<=x.1))).map (λg j=>g (m.length+j))=vs (shC m.length (ldZ L (w.take o) o 0)):=by
    simp[vs,shC,Wb,Function.comp_def]
   grind
 .obtain⟨y,hy,rfl⟩:=Zw.1 hr;obtain⟨hy,hb⟩:=Xx.1 hy;obtain⟨i,hi,rfl⟩:=Zf.1 hy;have e1:(w.take o)[i]=nth [] (w.take o) i:=by rw[nth,Z6,List.getElem?_eq_getElem hi];rfl
  rw[e1]at hb ⊢;have hb:=((Ke _ _).1 hb).2
  have hk:m.length<=L i:=Decidable.byContradiction λhn=>by
   have:=H2.pos i aa;have h0:=hb (L i) aa
   grind
  refine⟨_,Zw.2 ⟨(L i,ve (nth [] (w.take o) i)),Xx.2 ⟨xr aa aa,by grind⟩,rfl⟩,funext λj=>Jj _ _ _⟩
theorem aaG(hE:1<=E)(hb:BdE E m):BdE E (lG n m):=λi j=>by
 by_cases hi:i<n
 .have:=yX (m:=m) hi j;simp only[ve]at this;simp only[eZ,this];split
  .exact hb j i
  .split<;>simp<;>omega
 grind[nth.eq_1,tI]
theorem tX(h:m.length<=i)(j:Nat):eZ m i j=0:=by rw[eZ,show nth [] m i=[] by rw[nth,Z6,List.getElem?_eq_none h];rfl];rfl
theorem Fi(hn:n<=4)(hE:E<=10^9)(hb:BdE (10^9) m)(hcan:∀C:List (Nat×Ve),Hnf 0 C->(∀v,Spn (vs C) v↔Krn n (SpZ m) v)->∀x∈C,∀j,(x.2 j).natAbs<=E):
  ∃f z,uO 100000 f n m=some z∧BdE E z:=by
 obtain⟨f0,h0⟩:=BG (m.length+n) (II n m) (by grind[tI]) (aaG ae hb);obtain⟨o,w,hw⟩:=h0 f0 (Z8 _);obtain⟨⟨L,H⟩,e,hlw⟩:=Dw (II n m) hw;obtain⟨C,hC,hs,hr⟩:=acH H e
 have hbl:BdE (10^9) (vS m.length (w.take o)):=λi j=>by
  by_cases hi:i<(vS m.length (w.take o)).length
  .obtain⟨x,hx,ex⟩:=hr (vS m.length (w.take o))[i] (Yw hi);have e1:(vS m.length (w.take o))[i]=nth [] (vS m.length (w.take o)) i:=by rw[nth,Z6,List.getElem?_eq_getElem hi];rfl
   rw[e1]at ex;have:=congrFun ex j
   grind[ve]
  .rw[tX aa];simp
 have hlen:(vS m.length (w.take o)).length<=4:=by
  have h1:(vS m.length (w.take o)).length<=(w.take o).length:=by
   simp only[vS,List.length_map];exact List.length_filter_le _ _
  have h2:(w.take o).length<=w.length:=by rw[Zp];omega
  rw[hlw,tI]at h2;omega
 have key:∃f z,uO 100000 f n m=some z:=by
  obtain⟨f1,h1⟩:=BG n (Rm (zU H).2.1.ln) hlen hbl;obtain⟨o1,w1,hw1⟩:=h1 (max f0 f1) aa;by_cases hz:vS m.length (w.take o)=[]
  .refine⟨f0,[],?_⟩;unfold uO;rw[hw]
   show(if vS m.length (w.take o)=[]then some []else _)=some []
   grind
  .refine⟨max f0 f1,w1.take o1,?_⟩;unfold uO;rw[BH hw (by omega:f0<=max f0 f1)]
   show (if vS m.length (w.take o)=[]then some []else match qU 100000 (max f0 f1) n (vS m.length (w.take o))with
    |some (o,w)=>some (w.take o)
    |none=>none)=_
   grind
 obtain⟨f,z,hz⟩:=key;obtain⟨⟨L2,H2⟩,s2⟩:=zM hz;refine⟨f,z,hz,λi j=>?_⟩;by_cases hi:i<z.length
 .have:=hcan (ldZ L2 z z.length 0) (tu H2 z.length 0 0 aa (λ_=>Y7 _)) (λv=>by grind[aiR]) _ (xr aa (by omega:i<0+z.length)) j;exact this
 .rw[tX aa];simp
def HmF(n:Nat)(m:Mz):Prop:=∃L,Hm n n m.length L m
structure afh(E n:Nat)(m g w c:Mz)(f:Nat):Prop where
 g0:∃o g',qU 100000 f n m=some (o,g')∧g'.take o=g
 gw:uO 100000 f n g=some w
 wc:uO 100000 f n w=some c
 cw:uO 100000 f n c=some w
 hg:HmF n g
 hw:HmF n w
 hc:HmF n c
 bg:BdE (10^9) g
 bw:BdE E w
 bc:BdE (10^6) c
 sw:w.length=2->BdE 157464 w
 sc:c.length=2->BdE 157464 c
def afg(E:Nat)(m:Mz):Prop:=∀C:List (Nat×Ve),Hnf 0 C->(∀v,Spn (vs C) v↔Krn 4 (SpZ m) v)->C.length=1->∀x∈C,∀j,(x.2 j).natAbs<=E
theorem af6(hb:BdE 9 m):afg (10^9) m:=λC hC hs h1 x hx j=>by
 have:=Ou hC hs aa hb x hx j;rw[h1]at this;exact Z4 this ae
theorem abM(hE:10^6<=E)(hE9:E<=10^9)(h1:afg E m)(hn:n<=4)(hm:m.length<=3)(hl:Ln n m)(hb:BdE 9 m):∃g w c f,afh E n m g w c f:=by
 -- the form of the rows
 obtain⟨f0,h0⟩:=BG n hl aa (hb.mono ae);obtain⟨o,g',hg'⟩:=h0 f0 (Z8 _);obtain⟨⟨Lg,Hg⟩,eg⟩:=Ii hl hg';obtain⟨g,rfl⟩:=nmQ (g'.take o)
 have out:∀u,SpZ m u->∀j,n<=j->u j=0:=λu hu j hj=>by
  obtain⟨X,hX⟩:=KZ hu;rw[hX j,show(λk=>eZ m k j)=λ_=>0 from funext λk=>TN hl hj,qF];exact qE _ _
 have hC0:=tu Hg (g'.take o).length 0 0 aa (λ_=>Y7 _);have sC0:∀v,Spn (vs (ldZ Lg (g'.take o) (g'.take o).length 0)) v↔SpZ m v:=λv=>by rw[aiR Hg (Z8 _)];exact(eg v).symm
 have ltC0:∀x∈ldZ Lg (g'.take o) (g'.take o).length 0,x.1<n:=λx hx=>by
  obtain⟨k,_,hk,rfl⟩:=uI hx;exact Hg.lt k aa
 have sm:m.length*(9*slB m.length 9)<=78732:=by
  have:m.length=0∨m.length=1∨m.length=2∨m.length=3:=aa;rcases this with h|h|h|h<;>rw[h]<;>decide
 have small:∀(C:List (Nat×Ve)),C.length<=4->C.length*(m.length*(9*slB m.length 9))<=10^6:=λC hC=>by
  have:=Zu hC sm;omega
 have bg:BdE (10^9) (g'.take o):=λi j=>by
  by_cases hi:i<(g'.take o).length
  .have h1:=Px hC0 (λv hv=>(sC0 v).2 hv) (λv hv=>⟨1,aa,by grind⟩) aa hb _ (xr aa (by omega:i<0+(g'.take o).length)) j;have h2:=small _ (Z4 (xp hC0 ltC0) hn);exact Z4 h1 (Z4 h2 ae)
  .rw[tX aa];simp
 -- bounds of the kernels
 have can1:∀C:List (Nat×Ve),Hnf 0 C->(∀v,Spn (vs C) v↔Krn n (SpZ m) v)->∀x∈C,∀j,(x.2 j).natAbs<=E:=λC hC hs x hx j=>by
  have hlt:∀x∈C,x.1<n:=λx hx=>Decidable.byContradiction λh=>by
   have h1:=((hs x.2).1 (Spn.mem (Zw.2 ⟨x,hx,rfl⟩))).2 x.1 aa
   have hp:∀{C:List (Nat×Ve)}{o:Nat},Hnf o C->∀x∈C,0<x.2 x.1:=by
    intro C
    induction C with
    |nil=>simp
    | cons y C ih=>
     intro o H x hx;obtain⟨l,h⟩:=y;rcases Zy.1 hx with rfl|hx
     .exact H.1.2.1
     .exact ih H.2.2 x hx
   grind
  have hcl:=xp hC hlt;have hc0:0<C.length:=List.length_pos_of_mem hx;by_cases h4:n=4∧C.length=1
  .rw[h4.1]at hs;exact h1 C hC hs h4.2 x hx j
  refine Z4 (Z4 (Ou hC hs aa hb x hx j) ?_) hE;generalize C.length=t at *;have h1:n=0∨n=1∨n=2∨n=3∨n=4:=aa;have h2:t=1∨t=2∨t=3∨t=4:=aa
  rcases h1 with h|h|h|h|h<;>subst h<;>rcases h2 with h|h|h|h<;>subst h<;>first
   |decide
   |omega
 have can2:∀C:List (Nat×Ve),Hnf 0 C->(∀v,Spn (vs C) v↔Krn n (Krn n (SpZ m)) v)->C.length<=4∧∀x∈C,∀j,(x.2 j).natAbs<=C.length*(m.length*(9*slB m.length 9)):=λC hC hs=>by
  have hlt:∀x∈C,x.1<n:=λx hx=>Decidable.byContradiction λh=>by
   have h1:=((hs x.2).1 (Spn.mem (Zw.2 ⟨x,hx,rfl⟩))).2 x.1 aa;rcases qD hC (v:=x.2) (Spn.mem (Zw.2 ⟨x,hx,rfl⟩))with z|⟨y,hy,y1,y2,_⟩
   .have hr:=zS hC x hx;obtain⟨v,v1,v2,v3,v4⟩:=hr;exact v2 (((hs v).1 v1).2 x.1 aa)
   .obtain⟨v,v1,v2,v3,v4⟩:=zS hC x hx;exact v2 (((hs v).1 v1).2 x.1 aa)
  refine⟨Z4 (xp hC hlt) hn,Px hC (λv hv=>(hs v).2 ⟨λu hu=>by rw[qF];exact hu.1 v hv,out v hv⟩) (λv hv=>?_) aa hb⟩;exact XA hC0 ltC0 sC0 out ((hs v).1 hv)
 have eK:∀{S T:Ve->Prop},(∀v,S v↔T v)->∀v,Krn n S v↔Krn n T v:=λh v=>⟨Fh λu hu=>(h u).2 hu,Fh λu hu=>(h u).1 hu⟩
 -- the kernels
 obtain⟨f1,w,hw,bw⟩:=Fi (E:=E) hn hE9 bg (λC hC hs=>can1 C hC λv=>(hs v).trans (eK (λu=>(eg u).symm) v));obtain⟨Hw,sw⟩:=zM hw;have sw':∀v,SpZ w v↔Krn n (SpZ m) v:=λv=>(sw v).trans (eK (λu=>(eg u).symm) v)
 obtain ⟨f2,c,hc,bc⟩:=Fi (E:=10^6) hn ae (bw.mono hE9) (λC hC hs x hx j=>by
  obtain⟨h1,h2⟩:=can2 C hC λv=>(hs v).trans (eK sw' v)
  exact Z4 (h2 x hx j) (small C h1))
 obtain⟨Hc,sc⟩:=zM hc;have sc':∀v,SpZ c v↔Krn n (Krn n (SpZ m)) v:=λv=>(sc v).trans (eK sw' v)
 have s3:∀v,Krn n (SpZ c) v↔Krn n (SpZ m) v:=λv=>(eK sc' v).trans (SN out v)
 obtain⟨f3,w2,hw2,_⟩:=Fi (E:=E) hn hE9 (bc.mono ae) (λC hC hs=>can1 C hC λv=>(hs v).trans (s3 v));obtain⟨⟨L2,H2⟩,sw2⟩:=zM hw2;obtain⟨Lw,Hw'⟩:=Hw;have ew:w2=w:=abV H2 Hw' λv=>((sw2 v).trans (s3 v)).trans (sw' v).symm
 subst ew;refine⟨_,_,c,max (max f0 f1) (max f2 f3),⟨o,g',BH hg' aa,rfl⟩,Fj hw aa,Fj hc aa,Fj hw2 aa,⟨Lg,Hg⟩,⟨Lw,Hw'⟩,Hc,bg,bw,bc,λh2 i j=>?_,λh2 i j=>?_⟩
 .by_cases hi:i<w2.length
  case neg=>rw[tX aa];simp
  have h1:=Ou (tu Hw' w2.length 0 0 aa (λ_=>Y7 _)) (λv=>by rw[aiR Hw' (Z8 _)];exact sw' v) aa hb _ (xr aa (by omega:i<0+w2.length)) j;rw[xq,h2]at h1;refine Z4 h1 ?_;have h1:n=0∨n=1∨n=2∨n=3∨n=4:=aa;rcases h1 with h|h|h|h|h<;>rw[h]<;>decide
 .by_cases hi:i<c.length
  case neg=>rw[tX aa];simp
  obtain⟨Lc,Hc'⟩:=Hc;obtain⟨_,h1⟩:=can2 _ (tu Hc' c.length 0 0 aa (λ_=>Y7 _)) (λv=>by rw[aiR Hc' (Z8 _)];exact sc' v);have h3:=h1 _ (xr aa (by omega:i<0+c.length)) j;rw[xq,h2]at h3;exact Z4 h3 (Z4 (Z1 2 sm) ae)
end Go.Vm
namespace Go.Proofs
open Go.Shelf
def Tryz.laysPu14_ren:Go.Shelf.Ren:=⟨λ|14=>178|16=>146|17=>115|19=>173|20=>174|21=>147|22=>148|23=>149|24=>150|25=>175|27=>93|26=>176|28=>131|29=>163|30=>184|31=>185|32=>186|33=>187|35=>194|34=>196|36=>197|37=>198|38=>199|39=>201|40=>202|n=>n,λ|9=>9|3=>3|22=>173|24=>133|25=>198|4=>4|34=>197|5=>5|36=>200|37=>212|0=>0|39=>201|21=>21|44=>231|47=>245|50=>248|48=>246|2=>2|52=>237|55=>240|59=>253|60=>250|20=>20|61=>254|65=>256|66=>257|67=>258|n=>n,λ|0=>0|1=>1|2=>2|3=>3|4=>4|n=>n⟩
theorem Tryz.laysPu14:Go.Proofs.LaysPu.n14 Tryz.prog Tryz.laysPu14_ren:={
 mixed:=ag
 f14:=Tryz.func178.trans (congrArg some ag)
 f16:=Tryz.func146.trans (congrArg some ag)
 f17:=Tryz.func115.trans (congrArg some ag)
 f19:=Tryz.func173.trans (congrArg some ag)
 f20:=Tryz.func174.trans (congrArg some ag)
 f21:=Tryz.func147.trans (congrArg some ag)
 f22:=Tryz.func148.trans (congrArg some ag)
 f23:=Tryz.func149.trans (congrArg some ag)
 f24:=Tryz.func150.trans (congrArg some ag)
 f25:=Tryz.func175.trans (congrArg some ag)
 f26:=Tryz.func176.trans (congrArg some ag)
 f27:=Tryz.func93.trans (congrArg some ag)
 f28:=Tryz.func131.trans (congrArg some ag)
 f29:=Tryz.func163.trans (congrArg some ag)
 f30:=Tryz.func184.trans (congrArg some ag)
 f31:=Tryz.func185.trans (congrArg some ag)
 f32:=Tryz.func186.trans (congrArg some ag)
 f33:=Tryz.func187.trans (congrArg some ag)
 f34:=Tryz.func196.trans (congrArg some ag)
 f35:=Tryz.func194.trans (congrArg some ag)
 f36:=Tryz.func197.trans (congrArg some ag)
 f37:=Tryz.func198.trans (congrArg some ag)
 f38:=Tryz.func199.trans (congrArg some ag)
 f39:=Tryz.func201.trans (congrArg some ag)
 f40:=Tryz.func202.trans (congrArg some ag)
 t0:=Tryz.underlying0
 a0:=Tryz.isAgg0
 z0:=Tryz.sizeOf0
 v0:=Tryz.zeroValue0
 i0:=ag
 t2:=Tryz.underlying2
 a2:=Tryz.isAgg2
 z2:=Tryz.sizeOf2
 v2:=Tryz.zeroValue2
 i2:=ag
 t3:=Tryz.underlying3
 a3:=Tryz.isAgg3
 z3:=Tryz.sizeOf3
 v3:=Tryz.zeroValue3
 i3:=ag
 t4:=Tryz.underlying4
 a4:=Tryz.isAgg4
 z4:=Tryz.sizeOf4
 v4:=Tryz.zeroValue4
 i4:=ag
 t5:=Tryz.underlying5
 a5:=Tryz.isAgg5
 z5:=Tryz.sizeOf5
 v5:=Tryz.zeroValue5
 i5:=ag
 t9:=Tryz.underlying9
 a9:=Tryz.isAgg9
 z9:=Tryz.sizeOf9
 v9:=Tryz.zeroValue9
 i9:=ag
 t20:=Tryz.underlying20
 a20:=Tryz.isAgg20
 z20:=Tryz.sizeOf20
 v20:=Tryz.zeroValue20
 i20:=ag
 t21:=Tryz.underlying21
 a21:=Tryz.isAgg21
 z21:=Tryz.sizeOf21
 v21:=Tryz.zeroValue21
 i21:=ag
 t22:=Tryz.underlying173
 a22:=Tryz.isAgg173
 z22:=Tryz.sizeOf173
 v22:=Tryz.zeroValue173
 i22:=ag
 t24:=Tryz.underlying133
 a24:=Tryz.isAgg133
 z24:=Tryz.sizeOf133
 v24:=Tryz.zeroValue133
 i24:=ag
 t25:=Tryz.underlying198
 a25:=Tryz.isAgg198
 z25:=Tryz.sizeOf198
 v25:=Tryz.zeroValue198
 i25:=ag
 t34:=Tryz.underlying197
 a34:=Tryz.isAgg197
 z34:=Tryz.sizeOf197
 v34:=Tryz.zeroValue197
 i34:=ag
 c34:=ag
 t36:=Tryz.underlying200
 a36:=Tryz.isAgg200
 z36:=Tryz.sizeOf200
 v36:=Tryz.zeroValue200
 i36:=ag
 t37:=Tryz.underlying212
 a37:=Tryz.isAgg212
 z37:=Tryz.sizeOf212
 v37:=Tryz.zeroValue212
 i37:=ag
 t39:=Tryz.underlying201
 a39:=Tryz.isAgg201
 z39:=Tryz.sizeOf201
 v39:=Tryz.zeroValue201
 i39:=ag
 t44:=Tryz.underlying231
 a44:=Tryz.isAgg231
 z44:=Tryz.sizeOf231
 v44:=Tryz.zeroValue231
 i44:=ag
 t47:=Tryz.underlying245
 a47:=Tryz.isAgg245
 z47:=Tryz.sizeOf245
 v47:=Tryz.zeroValue245
 i47:=ag
 t48:=Tryz.underlying246
 a48:=Tryz.isAgg246
 z48:=Tryz.sizeOf246
 v48:=Tryz.zeroValue246
 i48:=ag
 t50:=Tryz.underlying248
 a50:=Tryz.isAgg248
 z50:=Tryz.sizeOf248
 v50:=Tryz.zeroValue248
 i50:=ag
 t52:=Tryz.underlying237
 a52:=Tryz.isAgg237
 z52:=Tryz.sizeOf237
 v52:=Tryz.zeroValue237
 i52:=ag
 t55:=Tryz.underlying240
 a55:=Tryz.isAgg240
 z55:=Tryz.sizeOf240
 v55:=Tryz.zeroValue240
 i55:=ag
 t59:=Tryz.underlying253
 a59:=Tryz.isAgg253
 z59:=Tryz.sizeOf253
 v59:=Tryz.zeroValue253
 i59:=ag
 t60:=Tryz.underlying250
 a60:=Tryz.isAgg250
 z60:=Tryz.sizeOf250
 v60:=Tryz.zeroValue250
 i60:=ag
 t61:=Tryz.underlying254
 a61:=Tryz.isAgg254
 z61:=Tryz.sizeOf254
 t65:=Tryz.underlying256
 a65:=Tryz.isAgg256
 z65:=Tryz.sizeOf256
 v65:=Tryz.zeroValue256
 i65:=ag
 t66:=Tryz.underlying257
 a66:=Tryz.isAgg257
 z66:=Tryz.sizeOf257
 v66:=Tryz.zeroValue257
 i66:=ag
 t67:=Tryz.underlying258
 a67:=Tryz.isAgg258
 z67:=Tryz.sizeOf258
 v67:=Tryz.zeroValue258
 i67:=ag
 g0:=ag
 m0:=ag
 g1:=ag
 m1:=ag
 g2:=ag
 m2:=ag
 g3:=ag
 m3:=ag
 g4:=ag
 m4:=by kernel_rfl}
def Tryz.laysC174_ren:Go.Shelf.Ren:=⟨λ|174=>75|247=>114|245=>115|287=>146|279=>147|280=>148|281=>149|282=>150|321=>173|322=>174|316=>175|171=>93|205=>176|243=>131|246=>163|283=>184|284=>185|285=>186|286=>187|129=>194|317=>196|318=>197|319=>198|320=>199|337=>201|338=>202|n=>n,λ|9=>9|3=>3|2=>2|75=>133|85=>134|4=>4|167=>197|5=>5|53=>173|175=>198|46=>200|168=>201|37=>212|0=>0|210=>231|21=>21|127=>245|145=>248|143=>246|171=>237|173=>240|212=>253|51=>250|20=>20|213=>254|232=>256|233=>257|80=>258|n=>n,λ|15=>0|16=>1|17=>2|18=>3|19=>4|n=>n⟩
theorem Tryz.laysC174:Go.Proofs.LaysC.n174 Tryz.prog Tryz.laysC174_ren:={
 mixed:=ag
 f129:=Tryz.func194.trans (congrArg some ag)
 f171:=Tryz.func93.trans (congrArg some ag)
 f174:=Tryz.func75.trans (congrArg some ag)
 f205:=Tryz.func176.trans (congrArg some ag)
 f243:=Tryz.func131.trans (congrArg some ag)
 f245:=Tryz.func115.trans (congrArg some ag)
 f246:=Tryz.func163.trans (congrArg some ag)
 f247:=Tryz.func114.trans (congrArg some ag)
 f279:=Tryz.func147.trans (congrArg some ag)
 f280:=Tryz.func148.trans (congrArg some ag)
 f281:=Tryz.func149.trans (congrArg some ag)
 f282:=Tryz.func150.trans (congrArg some ag)
 f283:=Tryz.func184.trans (congrArg some ag)
 f284:=Tryz.func185.trans (congrArg some ag)
 f285:=Tryz.func186.trans (congrArg some ag)
 f286:=Tryz.func187.trans (congrArg some ag)
 f287:=Tryz.func146.trans (congrArg some ag)
 f316:=Tryz.func175.trans (congrArg some ag)
 f317:=Tryz.func196.trans (congrArg some ag)
 f318:=Tryz.func197.trans (congrArg some ag)
 f319:=Tryz.func198.trans (congrArg some ag)
 f320:=Tryz.func199.trans (congrArg some ag)
 f321:=Tryz.func173.trans (congrArg some ag)
 f322:=Tryz.func174.trans (congrArg some ag)
 f337:=Tryz.func201.trans (congrArg some ag)
 f338:=Tryz.func202.trans (congrArg some ag)
 t0:=Tryz.underlying0
 a0:=Tryz.isAgg0
 z0:=Tryz.sizeOf0
 v0:=Tryz.zeroValue0
 t2:=Tryz.underlying2
 a2:=Tryz.isAgg2
 z2:=Tryz.sizeOf2
 v2:=Tryz.zeroValue2
 t3:=Tryz.underlying3
 a3:=Tryz.isAgg3
 z3:=Tryz.sizeOf3
 v3:=Tryz.zeroValue3
 t4:=Tryz.underlying4
 a4:=Tryz.isAgg4
 z4:=Tryz.sizeOf4
 v4:=Tryz.zeroValue4
 t5:=Tryz.underlying5
 a5:=Tryz.isAgg5
 z5:=Tryz.sizeOf5
 v5:=Tryz.zeroValue5
 t9:=Tryz.underlying9
 a9:=Tryz.isAgg9
 z9:=Tryz.sizeOf9
 v9:=Tryz.zeroValue9
 t20:=Tryz.underlying20
 a20:=Tryz.isAgg20
 z20:=Tryz.sizeOf20
 v20:=Tryz.zeroValue20
 t21:=Tryz.underlying21
 a21:=Tryz.isAgg21
 z21:=Tryz.sizeOf21
 v21:=Tryz.zeroValue21
 t37:=Tryz.underlying212
 a37:=Tryz.isAgg212
 z37:=Tryz.sizeOf212
 v37:=Tryz.zeroValue212
 t46:=Tryz.underlying200
 a46:=Tryz.isAgg200
 z46:=Tryz.sizeOf200
 v46:=Tryz.zeroValue200
 t51:=Tryz.underlying250
 a51:=Tryz.isAgg250
 z51:=Tryz.sizeOf250
 v51:=Tryz.zeroValue250
 t53:=Tryz.underlying173
 a53:=Tryz.isAgg173
 z53:=Tryz.sizeOf173
 v53:=Tryz.zeroValue173
 t75:=Tryz.underlying133
 a75:=Tryz.isAgg133
 z75:=Tryz.sizeOf133
 v75:=Tryz.zeroValue133
 t85:=Tryz.underlying134
 a85:=Tryz.isAgg134
 z85:=Tryz.sizeOf134
 v85:=Tryz.zeroValue134
 t127:=Tryz.underlying245
 a127:=Tryz.isAgg245
 z127:=Tryz.sizeOf245
 v127:=Tryz.zeroValue245
 t143:=Tryz.underlying246
 a143:=Tryz.isAgg246
 z143:=Tryz.sizeOf246
 v143:=Tryz.zeroValue246
 t145:=Tryz.underlying248
 a145:=Tryz.isAgg248
 z145:=Tryz.sizeOf248
 v145:=Tryz.zeroValue248
 t167:=Tryz.underlying197
 a167:=Tryz.isAgg197
 z167:=Tryz.sizeOf197
 v167:=Tryz.zeroValue197
 t168:=Tryz.underlying201
 a168:=Tryz.isAgg201
 z168:=Tryz.sizeOf201
 v168:=Tryz.zeroValue201
 t171:=Tryz.underlying237
 a171:=Tryz.isAgg237
 z171:=Tryz.sizeOf237
 v171:=Tryz.zeroValue237
 t173:=Tryz.underlying240
 a173:=Tryz.isAgg240
 z173:=Tryz.sizeOf240
 v173:=Tryz.zeroValue240
 t175:=Tryz.underlying198
 a175:=Tryz.isAgg198
 z175:=Tryz.sizeOf198
 v175:=Tryz.zeroValue198
 t210:=Tryz.underlying231
 a210:=Tryz.isAgg231
 z210:=Tryz.sizeOf231
 v210:=Tryz.zeroValue231
 t212:=Tryz.underlying253
 a212:=Tryz.isAgg253
 z212:=Tryz.sizeOf253
 v212:=Tryz.zeroValue253
 t213:=Tryz.underlying254
 a213:=Tryz.isAgg254
 z213:=Tryz.sizeOf254
 t232:=Tryz.underlying256
 a232:=Tryz.isAgg256
 z232:=Tryz.sizeOf256
 v232:=Tryz.zeroValue256
 t233:=Tryz.underlying257
 a233:=Tryz.isAgg257
 z233:=Tryz.sizeOf257
 v233:=Tryz.zeroValue257
 g15:=ag
 g16:=ag
 g17:=ag
 g18:=ag
 g19:=ag
 t80:=Tryz.underlying258
 a80:=Tryz.isAgg258
 z80:=Tryz.sizeOf258
 v80:=Tryz.zeroValue258
 i0:=ag
 i2:=ag
 i3:=ag
 i4:=ag
 i5:=ag
 i9:=ag
 i20:=ag
 i21:=ag
 i37:=ag
 i46:=ag
 i51:=ag
 i53:=ag
 i75:=ag
 i80:=ag
 i85:=ag
 i127:=ag
 i143:=ag
 i145:=ag
 i167:=ag
 i168:=ag
 i171:=ag
 i173:=ag
 i175:=ag
 i210:=ag
 i212:=ag
 i232:=ag
 i233:=ag
 m15:=ag
 m16:=ag
 m17:=ag
 m18:=ag
 m19:=ag
 c0:=ag
 c2:=ag
 c3:=ag
 c4:=ag
 c5:=ag
 c9:=ag
 c20:=ag
 c21:=ag
 c37:=ag
 c46:=ag
 c51:=ag
 c53:=ag
 c75:=ag
 c80:=ag
 c85:=ag
 c127:=ag
 c143:=ag
 c145:=ag
 c167:=ag
 c168:=ag
 c171:=ag
 c173:=ag
 c175:=ag
 c210:=ag
 c212:=ag
 c213:=ag
 c232:=ag
 c233:=by kernel_rfl}
end Go.Proofs
namespace Go.Vm
open Go Go.Am
variable{l:LuQ}
theorem QZ:∀(l:LuQ)(a:Nat),a<=pO a l
 |[],a=>Z8 _
 | c::l,a=>by
  have h:a*10+(c.toNat-48)<=pO (a*10+(c.toNat-48)) l:=QZ l _;have e:pO a (c::l)=pO (a*10+(c.toNat-48)) l:=rfl;generalize pO a (c::l)=y at *;generalize pO (a*10+(c.toNat-48)) l=z at *;generalize c.toNat-48=d at *;omega
theorem rt:∀(l:LuQ)(a:Nat),l.all oP=true->pO a l<10000000000000000000->Lib.parseUintM (2^64-1) a l=.ok (pO a l)
 |[],a,_,_=>rfl
 | c::l,a,h,hd=>by
  simp only[List.all_cons,Z7,oP,Nat.ble_eq]at h;have e:pO a (c::l)=pO (a*10+(c.toNat-48)) l:=rfl;rw[e]at hd ⊢;have hge:=QZ l (a*10+(c.toNat-48));rw[Lib.parseUintM,if_pos h.1,if_neg aa,if_neg aa];exact rt l _ h.2 hd
theorem frz(w:World)(e:TypeId)(s:ByteArray):w.heap.size<=(Lib.bytesWorld w e s).heap.size∧(∀c,c<w.heap.size->(Lib.bytesWorld w e s).heap[c]?=w.heap[c]?)∧(Lib.bytesWorld w e s).os=w.os∧(Lib.bytesWorld w e s).output=w.output:=
 ⟨by rw[Lib.bytesWorld_size];omega,λc hc=>Lib.bytesWorld_at_old w e s c hc,rfl,rfl⟩
theorem ZC{c:UInt8}(h:oP c=true):¬c.toNat=43∧¬c.toNat=45:=by simp only[oP,Z7,Nat.ble_eq]at h;omega
theorem Sq(hne:l≠[])(hall:l.all oP=true)(hlt:pO 0 l<9223372036854775808):Lib.parseIntB 64 l=.ok (pO 0 l:Int):=by
 cases l with
 |nil=>exact absurd rfl hne
 | cons c r=>
  have hc:=ZC (Zz.1 hall c ac)
  have hp:Lib.parseUintB 64 (c::r)=.ok (pO 0 (c::r)):=by
   rw[Lib.parseUintB,if_neg hne];exact rt _ _ hall aa
  unfold Lib.parseIntB;simp only[hc.1,hc.2,or_self,if_false,hp];rw[if_neg bb,if_neg ac]
theorem Sp(hne:l≠[])(hall:l.all oP=true)(hlt:pO 0 l<9223372036854775808):Lib.parseIntB 64 (45::l)=.ok (-(pO 0 l:Int)):=by
 have hp:Lib.parseUintB 64 l=.ok (pO 0 l):=by
  rw[Lib.parseUintB,if_neg hne];exact rt _ _ hall aa
 have h45:(45:UInt8).toNat=45:=rfl;unfold Lib.parseIntB;simp only[h45,or_true,if_true,hp];rw[if_neg ac,if_neg bb]
theorem af4:adB X:=by
 intro f args v h;simp only[X]at h;split at h
 .rename_i hf;obtain rfl:=Zk hf;unfold LG at h;split at h
  .rename_i s a b;split at h
   .rename_i hc;obtain⟨rfl,rfl,hne,hall,hsz,hlt⟩:=hc;obtain rfl:=Option.some.inj h;refine⟨rfl,rfl,.inr ⟨⟨_,Go.Proofs.Tryz.func178,ag,ag⟩,λw=>?_⟩⟩
    have hp:Lib.parseUintB 64 s.data.toList=.ok (pO 0 s.data.toList):=by
     rw[Lib.parseUintB,if_neg hne];exact rt _ _ hall hlt
    have hsz2:s.size=s.data.toList.length:=by rw[Array.length_toList];rfl
    have hmax:s.size≤9223372036854775806:=aa;refine(Go.Proofs.Any.strconv_ParseUint_10_at64_ok Go.Proofs.Tryz.laysPu14 s hmax _ hp w).mono ?_;rintro e w' ⟨rfl,rfl|rfl⟩
    .exact⟨rfl,Z8 _,λ_ _=>rfl,rfl,rfl⟩
    .exact⟨rfl,frz w _ s⟩
   .cases h
  .cases h
 .split at h
  .rename_i hf;obtain rfl:=Zk hf
   have key:∀(s:ByteArray)(z:Int),s.data.toList.length≤1001→Lib.parseIntB 64 s.data.toList=.ok z→v=.tuple #[.int .i64 z,.nilIface]→args=[.string s,.int .i64 10,.int .i64 64] →
     cV args=true∧plain v=true∧(O7 X F.fq args v∨(∃fn,Go.Proofs.Tryz.prog.funcs[F.fq]?=some fn∧fn.body.isNone=false∧(fn.name == "runtime.NumGoroutine")=false) ∧
     ∀w,Calls Go.Proofs.Tryz.prog F.fq args.toArray w λe w'=>e=.returned v∧w.heap.size≤w'.heap.size∧(∀c,c<w.heap.size→w'.heap[c]?=w.heap[c]?)∧w'.os=w.os∧w'.output=w.output):=by
    intro s z hl hp hv ha;subst hv;subst ha;refine⟨rfl,rfl,.inr ⟨⟨_,Go.Proofs.Tryz.func75,ag,ag⟩,λw=>?_⟩⟩;have hsz2:s.size=s.data.toList.length:=by rw[Array.length_toList];rfl
    refine(Go.Proofs.Any.strconv_ParseInt_10_at64_ok Go.Proofs.Tryz.laysC174 s aa z hp w).mono ?_;rintro e w' ⟨rfl,rfl|⟨t,rfl⟩⟩
    .exact⟨rfl,Z8 _,λ_ _=>rfl,rfl,rfl⟩
    .exact⟨rfl,frz w _ t⟩
   unfold P2 at h;split at h
   .rename_i s a b;split at h
    .rename_i hab;obtain⟨rfl,rfl⟩:=hab;split at h
     .rename_i l hs;split at h
      .rename_i hc;obtain⟨hne,hall,hsz,hlt⟩:=hc;obtain rfl:=Option.some.inj h;exact key s _ (by rw[hs];simp;omega) (by rw[hs];exact Sp hne hall hlt) rfl rfl
      .cases h
     .rename_i l hs;split at h
      .rename_i hc;obtain⟨hne,hall,hsz,hlt⟩:=hc;obtain rfl:=Option.some.inj h;exact key s _ aa (Sq hne hall hlt) rfl rfl
      .cases h
    .cases h
   .cases h
  .cases h
end Go.Vm
namespace Go.Proofs
open Go.RowKit Go.Shelf
attribute [local go_sem] Oper.semAt_some
def aff(W:World)(B o k c s:Nat):Prop:=∃(a:Option Addr)(cap:Nat),W.cell? ⟨B,o,none⟩=some (.slice a k cap)∧(0<k->a=some ⟨c,s,none⟩)
def ag1(W:World)(B o B2 o2 k c s c2 s2:Nat)(us vs:LvQ):Prop:=
 aff W B o k c s∧aff W B2 o2 k c2 s2∧(∀(i:Nat) v,us[i]?=some v->W.cell? ⟨c,s+i,none⟩=some v)∧∀(i:Nat) v,vs[i]?=some v->W.cell? ⟨c2,s2+i,none⟩=some v
set_option maxRecDepth 100000 in
set_option maxHeartbeats 2000000 in
theorem acW(l B o k c s c2 s2:Nat)(us vs:LvQ)(hu:us.length=k)(hv:vs.length=k)(hk:k<4611686018427387904)(J Jx:Nat->World->Prop)
  (hV:∀i W1,J i W1->ag1 W1 B o B (o+1) k c s c2 s2 us vs)
  (hY:∀(i:Nat) x y W1,J i W1->us[i]?=some x->vs[i]?=some y->YieldAt (Go.Am.Fw none) 0 Tryz.prog l #[x,y] W1 λe W'=>(e=.returned (.bool true)∧J (i+1) W')∨(e=.returned (.bool false)∧Jx (i+1) W'))
  (W:World) (h0:J 0 W) :
  CallsIn (Go.Am.Fw none) 1 Tryz.prog 160 #[.func (.yield l) #[] #[],.pointer (some ⟨B,o,none⟩)] W λe W'=>(∃v,e=.returned v)∧(J k W'∨∃i,Jx i W'):=by
 refine callsIn_of_wp Tryz.func160 rfl trivial ?_ rfl;simp only[Tryz.ntmps160,List.size_toArray,List.length_cons,List.length_nil,Nat.reduceAdd,Nat.reduceSub,Array.replicate_succ,Array.replicate_zero,List.push_toArray,List.append_toArray,List.nil_append,List.cons_append];obtain⟨⟨a,cap,hc0,ha⟩,_⟩:=hV 0 W h0
 gi_wp2
 gi_loopw [8] (λi wr=>∃j:Nat,j<=k∧i=.int .i64 j∧J j wr) (λi _=>k-(intOf i).toNat)
 case atStart=>grind
 case round=>
  obtain⟨j,hj,rfl,hJs⟩:=hrel;by_cases hlt:j<k
  .obtain rfl:=ha aa;have ex:∃x,us[j]?=some x:=⟨_,List.getElem?_eq_getElem aa⟩;have ey:∃y,vs[j]?=some y:=⟨_,List.getElem?_eq_getElem aa⟩;obtain⟨x,hx⟩:=ex;obtain⟨y,hy'⟩:=ey;obtain⟨_,⟨a2,cap2,hc2,ha2⟩,hus,hvs⟩:=hV j wr hJs;obtain rfl:=ha2 aa;have hcx:=hus j x hx;have hcy:=hvs j y hy';obtain⟨fn,tmps,assign,body,hy,hR⟩:=hY j x y wr hJs hx hy'
   clear hx hy' hus hvs
   gi_wp2
   refine hR.mono ?_;rintro e W3 (⟨rfl,hJ3⟩|⟨rfl,hJx3⟩)
   .gi_wp2
    go_roundw
    case rel=>exact⟨j+1,aa,ac,hJ3⟩
    case measure=>simp[intOf];omega
   .gi_wp2
    refine bodyPost_ret (results_none rfl _ _ _) rfl ?_;exact⟨⟨_,rfl⟩,.inr ⟨_,hJx3⟩⟩
  .obtain rfl:j=k:=aa
   gi_wp2
   simp_all[bodyPost_end,results_none]
end Go.Proofs
namespace Go.Vm
open Go Go.Am Go.Proofs
noncomputable section
variable{f:FuncId}{p q v a b:Value}{xs:List LvQ}
theorem Tv{P:Program}{args:Array Value}{w:World}{R:Ending->World->Prop}(h:CallsIn (Fw none) 1 P f args w R):CallsIn (Fw none) 0 P f args w R:=
 ⟨h.1,λcs _=>h.2 cs (λd hd=>by trivial)⟩
def hd1(x:LvQ):Value:=x.headD default
def sd1(x:LvQ):Value:=x.tail.headD default
theorem O8:∀(us vs:LvQ),us.length=vs.length->(((us.zip vs).map λx=>[x.1,x.2]).map hd1)=us∧(((us.zip vs).map λx=>[x.1,x.2]).map sd1)=vs
 |[],[],_=>⟨rfl,rfl⟩
 | u::us,v::vs,h=>by
  obtain⟨h1,h2⟩:=O8 us vs (by grind);simp only[List.zip_cons_cons,Zs,h1,h2];trivial
 |[],_::_,h=>by simp at h
 |_::_,[],h=>by simp at h
theorem Kq{H:AH}(h:Ns H p q=some xs):mZ H 1 p=some (xs.length,xs.map hd1)∧mZ H 1 q=some (xs.length,xs.map sd1)∧xs.length<4611686018427387904∧Ow p=true∧Ow q=true ∧
  ∀x∈xs,x=[hd1 x,sd1 x]∧plain (hd1 x)=true∧plain (sd1 x)=true:=by
 unfold Ns at h;split at h
 case h_2=>cases h
 rename_i k us k' vs hp hq;split at h
 case isFalse=>cases h
 rename_i hc;obtain⟨h1,h2,h3,h4,h5,h6,h7⟩:=hc;simp only[Z9]at h;subst h;obtain⟨m1,m2⟩:=O8 us vs aa;have hl:((us.zip vs).map λx=>[x.1,x.2]).length=k:=by simp;omega
 rw[m1,m2,hl];simp only[Z7]at h5;refine⟨hp,by rw[hq,h1],h4,h5.1,h5.2,λx hx=>?_⟩;obtain⟨⟨a,b⟩,hab,rfl⟩:=Zw.1 hx;have:=List.of_mem_zip hab;have e1:=Zz.1 h6 a this.1;have e2:=Zz.1 h7 b this.2;simp only[Z7]at e1 e2;exact⟨rfl,e1.1,e2.1⟩
theorem Py{X:Cfg}{φ:bI}(hp:Ow p=true)(hv:ak φ p v):∃c s:Nat,∀(φ':bI)(H':AH)(w':World)(k:Nat)(us:LvQ),ba X φ' H' w'->PLe φ φ'->mZ H' 1 p=some (k,us)->us.length=k->(∀u∈us,plain u=true) ->
  ∀B o v',w'.cell? ⟨B,o,none⟩=some v'->ak φ' p v'->aff w' B o k c s∧∀(i:Nat) u,us[i]?=some u->w'.cell? ⟨c,s+i,none⟩=some u:=by
 cases p<;>simp only[Ow]at hp<;>try cases hp
 rename_i a n cap;cases a with
 | none=>
  refine⟨0,0,λφ' H' w' k us hh _ hs hk _ B o v' hc hv'=>?_⟩;have e:=gW hv';subst e;cases n with
  | zero=>
   simp only[mZ,Z9,Z5]at hs;obtain⟨rfl,rfl⟩:=hs;exact⟨⟨none,cap,hc,λh=>absurd h aa⟩,λi u hi=>by simp at hi⟩
  |succ n=>trivial
 | some a=>
  obtain⟨a',c',rfl,hs⟩:=ip hv
  have hpl:a.spot=none∧∃pl,φ a.block=some pl:=by
   rcases hs with⟨h1,_,pl,hp,_⟩|⟨h1,_,_,_,pl,hp⟩
   .grind
   .grind
  obtain⟨hsp,pl,hpl⟩:=hpl;obtain⟨b,off,sp⟩:=a;simp only at hsp hpl;subst hsp;refine⟨pl.c,pl.s+off,λφ' H' w' k us hh hle hs' hk hpl' B o v' hc hv'=>?_⟩;obtain⟨⟨b2,o2,s2⟩,c2,rfl,hs2⟩:=ip hv';have hpb:=hle _ _ hpl;simp only[mZ]at hs';split at hs'
  .rename_i hn;simp only[Z9,Z5]at hs';obtain⟨rfl,rfl⟩:=hs';subst hn;exact⟨⟨_,c2,hc,λh=>absurd h aa⟩,λi u hi=>by simp at hi⟩
  .rename_i hn;simp only[Yp,Z0,Z5]at hs';obtain⟨cs,hr,rfl,rfl⟩:=hs';obtain⟨cs',r1,r2,r3,r4⟩:=hh.read hr hpb
   have hb:b2=pl.c∧o2=pl.s+off∧s2=none:=by
    rcases hs2 with⟨_,h2,pl2,hp2,h3,h4,_⟩|⟨_,h0,_⟩
    .grind
    .omega
   obtain⟨rfl,rfl,rfl⟩:=hb;refine⟨⟨_,c2,hc,λ_=>rfl⟩,λi u hi=>?_⟩
   grind[am.at,oC,ak.of_plain]
theorem Sn{x:LvQ}(h:x=[hd1 x,sd1 x]∧plain (hd1 x)=true∧plain (sd1 x)=true):cV x=true:=by grind[cV]
theorem adP(hpl:∀x∈xs,x=[hd1 x,sd1 x]∧plain (hd1 x)=true∧plain (sd1 x)=true){i:Nat}(ha:(xs.map hd1)[i]?=some a)(hb:(xs.map sd1)[i]?=some b):xs[i]?=some [a,b]:=by grind
theorem aeH {fn:Func}(h:Tryz.prog.funcs[f]?=some fn)(hb:fn.body.isNone=false)(hn:(fn.name == "runtime.NumGoroutine")=false):∃fn,X.P.funcs[f]?=some fn∧fn.body.isNone=false∧(fn.name == "runtime.NumGoroutine")=false:=⟨fn,h,hb,hn⟩
set_option maxRecDepth 100000 in
theorem aeJ:∃fn,X.P.funcs[160]?=some fn∧fn.body.isNone=false∧(fn.name == "runtime.NumGoroutine")=false:=aeH Tryz.func160 rfl (by rfl)
theorem afX:Rt X:=by
 intro gf lb H xs h0;have h:I7 gf lb H=some xs:=h0;clear h0;unfold I7 at h;split at h
 .rename_i hg;have hg:gf=160:=Zk hg;subst hg;split at h
  case h_2=>cases h
  rename_i b o;split at h
  case h_2=>cases h
  rename_i p q d hrd;obtain⟨s1,s2,s3,s4,s5,hpl⟩:=Kq h;refine⟨λx hx=>Sn (hpl x hx),aeJ,λφ w lb' hh hl=>?_⟩;simp only[am]at hl;obtain⟨v',r,rfl,hv',rfl⟩:=hl;obtain⟨pl,hpb,rfl⟩:=sO hv';obtain⟨cs',r1,r2,r3,r4⟩:=hh.read hrd hpb;simp only[am]at r1;obtain⟨p',_,rfl,hp',q',_,rfl,hq',d',_,rfl,hd',rfl⟩:=r1;obtain⟨c,s,base⟩:=Py (X:=X) s4 hp'
  obtain⟨c2,s2',base2⟩:=Py (X:=X) s5 hq';refine⟨λW=>ag1 W pl.c (pl.s+o) pl.c (pl.s+o+1) xs.length c s c2 s2' (xs.map hd1) (xs.map sd1),λφ' H' w' hh' hle hl' hs hk=>?_,λl J Jx W hV hY h0=>?_⟩
  .have hk:(bX H' b o 3).getD []=(bX H b o 3).getD []:=hk;have hs:I7 160 [.pointer (some ⟨b,o,none⟩)] H'=some xs:=hs;rw[hrd]at hk
   have hrd':bX H' b o 3=some [p,q,d]:=by
    cases hr:bX H' b o 3 with
    |none=>grind
    |some cs=>grind
   have hz:Ns H' p q=some xs:=by
    unfold I7 at hs;rw[show Nat.beq 160 F.cU=true from rfl]at hs;simp only[hrd']at hs;exact hs
   obtain⟨t1,t2,_⟩:=Kq hz;obtain⟨ds',u1,u2,u3,u4⟩:=hh'.read hrd' (hle _ _ hpb);simp only[am]at u1;obtain⟨p2,_,rfl,hp2,q2,_,rfl,hq2,d2,_,rfl,hd2,rfl⟩:=u1;have k0:=u4 0 p2 rfl;have k1:=u4 1 q2 rfl;rw[oC]at k0 k1;obtain⟨w1,w2⟩:=base φ' H' w' _ _ hh' hle t1 ac (λu hu=>by grind) _ _ _ k0 hp2
   obtain⟨w3,w4⟩:=base2 φ' H' w' _ _ hh' hle t2 ac (λu hu=>by grind) _ _ _ k1 hq2;trivial
  .exact Tv (acW l pl.c (pl.s+o) xs.length c s c2 s2' (xs.map hd1) (xs.map sd1) ac ac s3 J Jx hV (λi x y W1 hJ hx hy=>hY i [x,y] W1 hJ (adP hpl hx hy)) W h0)
 .rename_i hf;split at h
  case h_2=>cases h
  rename_i hg;rw[show F.uz=F.cU from rfl,hf]at hg;cases hg
end
end Go.Vm
set_option maxRecDepth 100000
namespace Go.Vm
open Go Go.Am
variable{i n E k d:Nat}{m:Mz}{r:LiQ}{o:Nat×Bk}{vals:Bool}{z:Int}
theorem aeG:(List.range X.P.funcs.size).all (λf=>!X.allow f||match X.P.funcs[f]? with
  |some fn=>abr X.P fn&&(match fn.body with|some c=>jY Y fn.ntmps c|none=>true)
  |none=>true)=true:=aG
theorem adi{f:FuncId}{fn:Func}(ha:X.allow f=true)(hf:X.P.funcs[f]?=some fn):abr X.P fn=true∧(match fn.body with|some c=>jY Y fn.ntmps c|none=>true)=true:=by
 have hlt:f<X.P.funcs.size:=by
  rcases Zg f X.P.funcs.size with h|h
  .exact h
  .rw[Array.getElem?_eq_none h]at hf;cases hf
 have:=Zz.1 aeG f (Xi.2 hlt);rw[ha,hf]at this;simpa using this
theorem vOk:VOk Y where
 y:=yOk
 fns f fn c ha hf hc:=by have:=(adi ha hf).2;rw[hc]at this;exact this
theorem aeg:O6 X where
 mixed:=by rfl
 fns f fn ha hf:=(adi ha hf).1
 orc:=af4
 seq:=afX
open Go.Big
theorem qM{α:Type}(d:α)(m:List α)(h:i<m.length):nth d m i=m[i]:=by rw[nth,Z6,List.getElem?_eq_getElem h];rfl
theorem QE(H:HmF n m):m.length<=n:=by
 obtain⟨L,H⟩:=H
 have:=xp (n:=n) (tu H m.length 0 0 aa (λ_=>Y7 _)) (λx hx=>by
  obtain⟨k,_,hk,rfl⟩:=uI hx;exact H.lt k aa)
 grind[xq]
theorem XR(H:HmF n m):∀r∈m,r.length=n:=λr hr=>by
 obtain⟨L,H⟩:=H;obtain⟨i,hi,rfl⟩:=Zf.1 hr;have:=H.ln i hi
 grind[qM]
theorem Kf(hb:BdE E m):∀r∈m,∀z∈r,z.natAbs<=E:=λr hr z hz=>by
 obtain⟨i,hi,rfl⟩:=Zf.1 hr;obtain⟨j,hj,rfl⟩:=Zf.1 hz;have:=hb i j
 grind[qM]
theorem zD(h1:0<n)(h2:n<=12)(H:HmF n m)(hb:BdE (10^9) m):sE n m:=
 ⟨h1,h2,by have:=QE H;omega,XR H,λr hr z hz=>by have:=Kf hb r hr z hz;omega⟩
theorem Vz{l:Nat}(h1:∀j,j<l->nth 0 r j=0)(h2:nth 0 r l≠0):piv r=l:=by
 have hl:l<r.length:=Decidable.byContradiction λh=>h2 (by rw[nth,Z6,List.getElem?_eq_none aa];rfl)
 have:r.findIdx? (λn=>n !=0)=some l:=by
  rw[List.findIdx?_eq_some_iff_getElem];refine⟨hl,by grind[qM],λj hj=>?_⟩;rw[<-qM 0 r aa,h1 j hj];simp
 grind[piv,idx]
theorem QH{n:Nat}{m:Mz}{L:Nat->Nat}(H:Hm n n m.length L m):∀(q a:Mz)(b:Int),m=a++q->(∀i,i<m.length->i=a.length->b<L i)->JL b a q=true
 |[],a,b,e,hb=>rfl
 | r::q,a,b,e,hb=>by
  have hal:a.length<m.length:=by rw[e];simp
  have er:nth [] m a.length=r:=by rw[qM _ _ hal];simp[e]
  have p1:=H.pos a.length hal;have p2:=H.low a.length hal;simp only[eZ,er]at p1 p2;have hp:=Vz p2 aa;have hb':=hb a.length hal rfl;simp only[JL,hp,Int.toNat_natCast];rw[if_neg aa,if_neg]
  .refine QH H q (a++[r]) _ (by simp[e]) λi hi he=>?_
   rw[Zq,List.length_singleton]at he;subst he;have:=H.inc a.length (a.length+1) aa hi;omega
  .rw[Bool.not_eq_true,List.any_eq_false];intro o ho;obtain⟨j,hj,rfl⟩:=Zf.1 ho;have eo:nth [] m j=a[j]:=by rw[qM _ _ aa];simp[e,List.getElem_append_left hj]
   have:=H.red j a.length hj hal
   grind[upF]
theorem Pp{c:Nat}(hc:c<=12):∀{m:Mz},(∀r∈m,r.length=c)->(∀r∈m,∀z∈r,z.natAbs<=1000000000)->Gr c m=0
 |[],_,_=>rfl
 | r::q,h1,h2=>by
  have hr:=h1 r ac;simp only[Gr];rw[if_neg aa,if_neg aa,if_neg]
  .exact Pp hc (λx hx=>h1 x (by grind)) λx hx=>h2 x (by grind)
  .rw[Bool.not_eq_true,List.any_eq_false];intro z hz;have:=h2 r ac z hz
   grind[OA]
theorem Vn(h1:r.length<=64)(h2:∀z∈r,z.natAbs<=1000000000):rcB r=0:=by
 unfold rcB;rw[if_neg];rintro(h|h)
 .omega
 grind[Cf]
theorem Lz{n:Nat}(hn:n<=64):∀{m:Mz},(∀r∈m,r.length=n)->(∀r∈m,∀z∈r,z.natAbs<=1000000000)->wB n m=0
 |[],_,_=>rfl
 | r::q,h1,h2=>by
  have hr:=h1 r ac;simp only[wB];rw[Vn aa (h2 r ac),if_neg ae,if_neg aa];exact Lz hn (λx hx=>h1 x (by grind)) λx hx=>h2 x (by grind)
theorem WY(hn:n<=12)(hm:m.length<=12)(h1:∀r∈m,r.length=n)(h2:∀r∈m,∀z∈r,z.natAbs<=1000000000):lcB n m=0:=by unfold lcB;rw[if_neg aa,if_neg aa];exact Lz aa h1 h2
theorem JH(hn:n<=12)(H:HmF n m)(hb:BdE (10^9) m):GH n m=0:=by
 have hl:=QE H;have hr:=XR H;have hz:=Kf hb;have hz':∀r∈m,∀z∈r,z.natAbs<=1000000000:=λr hr z hzz=>hz r hr z hzz
 unfold GH;rw[WY hn aa hr hz',if_neg ae,if_pos];unfold hfB
 have t0:tcB m=0:=by
  unfold tcB;rw[if_neg aa];refine Pp ?_ (λr hr'=>?_) hz'
  .cases m with
   |nil=>simp[nth]
   |cons x q=>have:=hr x ac;grind[nth]
  .rw[hr r hr'];cases m with
   |nil=>cases hr'
   |cons x q=>have:=hr x ac;grind[nth]
 obtain⟨L,H⟩:=H;rw[t0,QH H m [] (-1) rfl (λi _ _=>by omega)];rfl
def ofN(N:Nat)(r0 o:Nat×Bk)(l:List RwL):Hp:=r0::o::nnQ::loB l::(l.map RwL.k++List.replicate (N-l.length) nnQ)
theorem Ji{N:Nat}{r0:Nat×Bk}{l:List RwL}(h:l.length<=N):(ofN N r0 o l).length=N+4:=by grind[ofN]
theorem Qf{r0:Nat×Bk}{l:List RwL}(h:l.length<=12):ofN 12 r0 o l++List.replicate 14 nnQ=ofN 26 r0 o l:=by simp only[ofN,List.cons_append,List.append_assoc,List.replicate_append_replicate];rw[show 12-l.length+14=26-l.length by omega]
theorem VK{r0:Nat×Bk}{l:List RwL}(h:l.length<=12):(ofN 26 r0 o l).take 16=ofN 12 r0 o l:=by rw[<-Qf h,Yb (by rw[Ji h])]
section
variable{r0:Nat×Bk}(hr0:az 16 r0.2=true)
include hr0
theorem Qe{N:Nat}{l:List RwL}(ho:az 16 o.2=true)(hl:∀R∈l,R.s<16):((ofN N r0 o l).all λx=>az 16 x.2)=true:=by simp only[ofN,List.all_cons,Y0,ho,hr0,I8,Bh,Yc,Yd];exact Bool.and_eq_true_iff.2 ⟨rfl,Ma hl⟩
theorem Cg{m:LLQ}(hm:m.length<=12)(hr:∀r∈m,r.length<1000000)(hz:∀r∈m,∀z∈r,-9223372036854775808<z∧z<9223372036854775808)(h0:Hp)(K:KL) :
  ∀(q a:LLQ)(o:Nat×Bk),m=a++q->o=ooF nnQ (lgR true 4 a)->K (.exit 0) [loV 3 (lgR true 4 m)] (ofN 26 r0 (ooF nnQ (lgR true 4 m)) (lgR true 4 m)) ->
  lp (ma (CX Y) 16 (mat m) (I m.length)) [] h0 [loV 3 (lgR true 4 a),I a.length] (ofN 26 r0 o (lgR true 4 a)) K
 | [],a,o,e,hu,hK=>by
  simp only[Zn]at e;subst e;refine ai ?_;simp only[ma];have hlt:¬((m.length:Int)<(m.length:Int)):=aa;simp[hlt]
  grind
 | r::q,a,o,e,hu,hK=>by
  refine ai ?_;have hlt:((a.length:Int)<(m.length:Int)):=by rw[e];simp;omega
  have hl:a.length<m.length:=aa;have hrm:r∈m:=by rw[e];simp
  obtain⟨H,hH⟩:=nmQ (ofN 26 r0 o (lgR true 4 a));have i1:ixV H 1 (mat m) (I a.length)=some (.dptr (m.map row) a.length):=by rw[e];exact wR row a r q _ _
  have i2:ld1 H (.dptr (m.map row) a.length)=some (lst di r):=by
   rw[mH row m _ hl];simp only[e,Zh (Z8 _),Za,Zd];rfl
  have hlen:H.length=30:=by rw[hH,Ji bb]
  have hu1:(H.all λx=>az H.length x.2)=true:=by
   rw[hlen];refine tM (b:=16) aa ?_;rw[hH];have hlt16:∀R∈lgR true 4 a,R.s<16:=λR hR=>by have:=E9 true 4 a R hR;omega
   exact Qe hr0 (by rw[hu];exact Qa rfl hlt16) hlt16
  rw[<-hH];simp only[ma];simp[hlt,i1,i2]
  have g1:H[a.length+4]?=some nnQ:=by
   rw[hH];simp only[ofN,List.getElem?_cons_succ];rw[List.getElem?_append_right ac,List.getElem?_replicate,if_pos bb]
  refine vi (a.length+4) ?_;refine gA (Br (Rd.data _ r) (hz r hrm) (hr r hrm) hu1) g1 ?_;obtain⟨R,hR⟩:∃R:RwL,R=⟨a.length+4,1,[],[],true,r.length,r⟩:=⟨_,rfl⟩;have v1:V.ref (a.length+4) (0+1) 0 r.length r.length (r.map sI).length=R.v:=by rw[hR];simp[RwL.v,RwL.tot]
  have k1:((0+1,Bk.data 1 (r.map sI) true false):Nat×Bk)=R.k:=by rw[hR];simp[RwL.k]
  have e1:H.set (a.length+4) R.k=r0::o::nnQ::loB (lgR true 4 a)::((lgR true 4 a++[R]).map RwL.k++List.replicate (26-(lgR true 4 a++[R]).length) nnQ):=by
   rw[hH];simp only[ofN,List.set_cons_succ];rw[Yy _ _ ac];simp only[List.length_map,Dq,Za,Xz,Zq,List.append_assoc,Zs,Ya,List.length_cons,List.length_nil];rw[show 26-a.length=(26-(a.length+1))+1 by omega,List.replicate_succ,List.set_cons_zero];rfl
  have l2:lgR true 4 (a++[r])=lgR true 4 a++[R]:=by rw[JD,hR]
  rw[v1,k1,e1,<-l2];simp;refine vi 1 ?_;simp;refine Ju (e:=o.1) (b:=o.2) rfl (v:=R.v) rfl ?_;simp;refine vi 3 ?_;simp;refine(Dp (l:=lgR true 4 a) (R:=R) bb (by simp[rS,ax]) rfl ?_);rw[<-l2];have ih:=Cg hm hr hz h0 K q (a++[r]) (o.1+1,.vars [R.v]) (by simp[e]) (by rw[l2,Qb,hu]) hK
  have e2:((a++[r]).length:Int)=(a.length:Int)+1:=ac;rw[e2]at ih;simp(disch:=try exact af);refine lo ?_;have e3:26-(lgR true 4 (a++[r])).length=25-a.length:=ac
  grind[ofN.eq_1,dN]
theorem L6{m:LLQ}(hm:m.length<=12)(hr:∀r∈m,r.length<1000000)(hz:∀r∈m,∀z∈r,-9223372036854775808<z∧z<9223372036854775808):
  CI Y F.cN [mat m] (ofN 12 r0 nnQ []) (loV 3 (lgR true 4 m)) (ofN 12 r0 (ooF nnQ (lgR true 4 m)) (lgR true 4 m)):=by
 refine zJ ?_;have hl:(ofN 12 r0 nnQ []).length=16:=rfl;have l1:aN (mat m)=some (I m.length):=rfl;have hlt16:∀R∈lgR true 4 m,R.s<16:=λR hR=>by have:=E9 true 4 m R hR;omega
 rw[hl];simp only[cN];rw[Qf ac];simp[l1];refine lo (Cg hr0 hm hr hz _ _ m [] nnQ rfl rfl ?_);simp;refine⟨by rw[VK bb],Qe hr0 (Qa rfl hlt16) hlt16,.inl ⟨rfl,?_⟩⟩;unfold loV;split
 .rfl
 rfl
end
theorem NU{so eo o:Nat}{h:Hp}{m:List RwL}(hs:h[so]?=some (eo,.vars (m.map RwL.v)))(hr:∀R∈m,LO h R)(hc:∀R∈m,R.r.length<=R.cap)(h0:m≠[])(ho:o<=m.length):
  ∃h1,cF h (.ref so eo 0 o m.length m.length)=some (uH ((m.map RwL.r).take o),h1)∧∀(s e:Nat)(vs:LwQ),s≠so->h[s]?=some (e,Bk.vars vs)->h1[s]?=some (e,Bk.vars vs):=by
 obtain⟨h1,e1,v1⟩:=IN m h hr hc;have g1:=v1 _ _ _ hs;have g0:ax h so eo=.vars (m.map RwL.v):=by simp[ax,hs]
 have hd:JX (m.map RwL.v)=none:=by
  cases m with
  |nil=>trivial
  |cons R m=>rfl
 refine⟨b6 h1 so eo (.data 1 (m.map λR=>tg R.r) false true),?_,λs e vs hne hg=>?_⟩
 .have t1:toD h (.ref so eo 0 o m.length m.length)=none:=by simp[toD,g0,hd]
  have t2:ND h (.ref so eo 0 o m.length m.length)=some (.sl o ((m.map λR=>tg R.r).take o),b6 h1 so eo (.data 1 (m.map λR=>tg R.r) false true)):=by
   simp only[ND,g0,e1];have:ax h1 so eo=.vars (m.map RwL.v):=by simp[ax,g1]
   simp only[this];rw[if_pos (by grind)];simp
  simp_all[cF,uH,lst,Function.comp_def]
 grind[b6.eq_1]
theorem aet{n Bd f o':Nat}{m z':Mz}(hB:Bd<=100000)(h0:0<n)(hn:n<=12)(hl:lcB n m=0)(hm:m.length<=12)(hr:∀r∈m,r.length=n)(hz:∀r∈m,∀z∈r,-9223372036854775808<z∧z<9223372036854775808)
  (hf:qU Bd f n m=some (o',z')) (ho:sE n (z'.take o')):CP Y F.qf [I n,mat m] (.tup [qA n (z'.take o'),I 0]):=by
 refine JI ?_;simp only[qf];simp;have hrl:∀r∈m,r.length<1000000:=λr hr'=>by grind
 have ck:=H6 (n:=n) (m:=m) aa hrl;rw[hl]at ck;refine cd ck ?_ (by rfl);obtain⟨r0,hr0⟩:∃r0:Nat×Bk,r0=(1,.vars [I 0,nlV]):=⟨_,rfl⟩;have u0:az 16 r0.2=true:=by rw[hr0];rfl
 have hH:([(1,Bk.vars [V.d (D.int IntKind.i64 0),V.d nPQ]),(0,Bk.none),(0,Bk.none),(0,Bk.none),(0,Bk.none),(0,Bk.none),(0,Bk.none),(0,Bk.none),(0,Bk.none),(0,Bk.none),(0,Bk.none),(0,Bk.none),(0,Bk.none),(0,Bk.none),(0,Bk.none),(0,Bk.none)]:Hp)=ofN 12 r0 nnQ []:=by rw[hr0];rfl
 have c1:=L6 u0 hm hrl hz;have ok1:okV (mat (z'.take o'))=true:=rfl;have c3:=yA (m:=z'.take o') (n:=n) (by grind[sE.ml]) (λr hr'=>by grind[sE.rl]) ho.sm;simp;rw[hH];by_cases hm0:m=[]
 .subst hm0
  have hz0:z'=[]:=by
   have hfm:=(Dw (n:=n) (λi hi=>by simp at hi) hf).2.2;exact Zi hfm
  subst hz0;rw[List.take_nil]at c3 ⊢;have c1':CI Y F.cN [mat []] (ofN 12 r0 nnQ []) nlV (ofN 12 r0 nnQ []):=c1;refine gP c1' ?_ ac;refine gP (HZ (h:=ofN 12 r0 nnQ []) (n:=n) ?_) ?_ ac
  .exact Qe (N:=12) u0 rfl (λR hR=>by cases hR)
  refine qP (ds:=[uH [],I n]) (h':=ofN 12 r0 nnQ []) rfl c3 ?_;rw[hr0];simp[qA,ok1];exact⟨_,by rfl⟩
 .obtain⟨l,hll⟩:=nmQ (lgR true 4 m);have hln:l.length=m.length:=by rw[hll];simp
  have hl0:l≠[]:=λe=>hm0 (by grind)
  have hlr:l.map RwL.r=m:=by rw[hll,WO]
  have hnth:∀i,i<l.length->nth RwL.z l i=⟨i+4,1,[],[],true,(nth [] m i).length,nth [] m i⟩:=λi hi=>by rw[hll,JC true 4 _ i aa]
  have hnl:∀i,i<l.length->(nth [] m i).length=n:=λi hi=>by rw[qM _ _ aa];grind
  obtain⟨o,hoo⟩:=nmQ (ooF nnQ l)
  have uo:az 16 o.2=true:=by
   rw[hoo];exact Qa rfl λR hR=>by rw[hll]at hR;have:=E9 true 4 m R hR;omega
  rw[<-hll,<-hoo]at c1;obtain⟨H,hHe⟩:=nmQ (ofN 12 r0 o l);have hHl:H.length=16:=by rw[hHe,Ji aa]
  have T:Tr H.length H H 3 l.length n l:=by
   refine⟨?_,λi hi=>?_,λi j hi hj hij=>?_,λi hi=>?_,λi hi=>?_,λ_ _ _=>rfl,aa,λi hi=>?_,?_,Z8 _,λs h1 h2=>by omega⟩
   .grind[ofN,loB]
   .have h5:=Dr true m 4 [r0,o,nnQ,loB l] (List.replicate (12-l.length) nnQ) rfl (nR l i) (by grind[yx]);rw[<-hll]at h5;rw[hHe];exact h5
   .grind
   .grind
   .grind
   .grind
   .rw[hHl,hHe];exact Qe u0 uo λR hR=>by rw[hll]at hR;have:=E9 true 4 m R hR;omega
  obtain⟨m1,f1,f2⟩:=JN (hlr.symm▸hf);obtain⟨⟨⟨h1,T1,e1⟩,hQ⟩,q1,q2⟩:=FK (Q:=λR=>n<=R.cap∧4<=R.s) (λ_ _ h=>h) T (λi hi=>by rw[nR,hnth i hi];exact⟨by grind,ac⟩) f1;have fo:=Fa hB aa aa (Z8 _) T f1 T1 e1;have lv:loV 3 l=.ref 3 l.length 0 l.length l.length l.length:=by rw[loV,if_neg hl0]
  rw[lv,<-hHe]at c1;refine gP c1 ?_ ac;refine gP fo ?_ ac;have hm1:m1≠[]:=λe=>hl0 (by grind)
  have g0:h1[0]?=some (1,.vars [I 0,nlV]):=by
   rw[T1.fr 0 aa (λi hi=>by grind),hHe,hr0];rfl
  have T1o:=T1.o;rw[<-q2]at T1o ⊢
  obtain ⟨h3,e3,v3⟩:=NU (o:=o') T1o (λR hR=>by
   obtain⟨i,hi,rfl⟩:=Bn hR;exact⟨false,T1.r i hi⟩) (λR hR=>by
   grind[Bn,Tr.ln]) hm1 aa
  rw[f2]at e3;have g3:=v3 0 1 _ aa g0
  have hs3:∀c w:V,okV c=true->okV w=true->st h3 2 (.ptr 0 1 0 2) (.agg [c,w])=some (h3.set 0 (1,.vars [c,w])):=λc w hc hw=>by
   grind[st,sto,ax,b6]
  have h3l:0<h3.length:=(List.getElem?_eq_some_iff.1 g3).1
  have hl3:∀c w:V,ldA (h3.set 0 (1,.vars [c,w])) 2 (.ptr 0 1 0 2)=some (.agg [c,w]):=λc w=>by
   simp[ldA,ax,List.getElem?_set_self h3l]
  have sI:∀h:Hp,cF h (I n)=some (I n,h):=λh=>rfl
  refine qP (ds:=[uH (z'.take o'),I n]) (h':=h3) (by grind[aO]) c3 ?_;have hs4:=hs3 (I n) (mat (z'.take o')) rfl ok1;have hl4:=hl3 (I n) (mat (z'.take o'));rw[show(if cI (V.tup [qA n (z'.take o'),I 0])=true then h1 else h3)=h3 from rfl];simp only[qA];simp[hs4,hl4];exact⟨_,by rfl⟩
abbrev I4:=Int×Int×Int×Int
def i4D(x:I4):LdQ:=[.int .i8 x.1,.int .i8 x.2.1,.int .i8 x.2.2.1,.int .i8 x.2.2.2]
theorem QC(x:I4):(i4D x).length=4:=rfl
def i4L(x:I4):LiQ:=[x.1,x.2.1,x.2.2.1,x.2.2.2]
def ok4(x:I4):Prop:=(-128<=x.1∧x.1<=127)∧(-128<=x.2.1∧x.2.1<=127)∧(-128<=x.2.2.1∧x.2.2.1<=127)∧(-128<=x.2.2.2∧x.2.2.2<=127)
def mkI(p:LiQ)(x:I4):Rw:=itv p.length (i4L x)
theorem OV{p:LiQ}{g w c:Mz}{f:Nat}(hp:pcB p=0)(h0:0<p.length)(h4:p.length<=4)(hm:m.length<=3)(hr:∀r∈m,r.length=p.length)(hz:∀r∈m,∀z∈r,z.natAbs<=9)(hE:E<=10^9)(R:afh E p.length m g w c f)(vals:Bool):
  CP Y F.gJ [lst di p,mat m,B vals] (.tup [tpV p (if vals=true then w else c) (if vals=true then c else w),I 0]):=by
 refine wz ?_;obtain⟨o,g',hf,hg⟩:=R.g0;have lg:sE p.length g:=zD h0 aa R.hg R.bg;have lw:sE p.length w:=zD h0 aa R.hw (R.bw.mono hE);have lc:sE p.length c:=zD h0 aa R.hc (R.bc.mono ae)
 have c1:=aet (n:=p.length) (m:=m) (Z8 100000) h0 aa (WY aa aa hr λr hr' z hz'=>by grind) aa hr (λr hr' z hz'=>by grind) hf (by grind);rw[hg]at c1;have hlc:=JH aa R.hg R.bg;have c2:=Qn (Z8 100000) hlc lg R.gw lw.rl (by grind[sE.ml]) R.wc lc;have c3:=Qy (Z8 100000) hlc lg R.gw lw
 have cp:=mz (p:=p) aa;rw[hp]at cp;have l1:aN (lst di p)=some (I p.length):=rfl;have ok1:∀m:Mz,okV (mat m)=true:=λ_=>rfl
 have ok2:okV (lst di p)=true:=rfl;simp only[qA]at c1 c2 c3;simp only[gJ];simp;refine cd cp ?_;simp[l1];refine cd c1 ?_ (by rfl);simp[ok1];refine cd c2 ?_ (by rfl);simp[ok1];refine cd c3 ?_ (by rfl);simp[ok1];cases vals with
 | false=>
  refine aC ?_;simp[ok1,ok2];exact⟨_,by rfl⟩
 | true=>
  refine aC ?_;simp[ok1,ok2];exact⟨_,by rfl⟩
theorem VZ{p:LiQ}{e:List I4}{kk:Nat}{vals:Bool}(he:e.length<=3)(hb:∀x∈e,ok4 x)(hp:p.length<=4)(b1 b3:Nat×Bk)(h0:Hp)(K:KL):∀(q a:List I4),e=a++q ->
  K (.exit 0) [(acU 2).v e.length (e.map λx=>row (mkI p x))] [(1,.vars [.d (.int .u8 kk),lF i4D e,B vals]),b1,(acU 2).b e.length (e.map λx=>row (mkI p x)),b3] ->
  lp (jX (CX Y) (.ptr 0 1 0 3) (lst di p)) [] h0 [(acU 2).v a.length (a.map λx=>row (mkI p x)),I a.length] [(1,.vars [.d (.int .u8 kk),lF i4D e,B vals]),b1,(acU 2).b a.length (a.map λx=>row (mkI p x)),b3] K
 | [],a,e1,hK=>by
  simp only[Zn]at e1;subst e1;refine ai ?_;have hlt:¬((e.length:Int)<(e.length:Int)):=aa;have l1:aN (lF i4D e)=some (I e.length):=rfl;simp only[jX];simp[hlt,l1];exact hK
 | x::q,a,e1,hK=>by
  refine ai ?_;have hlt:((a.length:Int)<(e.length:Int)):=by rw[e1];simp;omega
  have h3:((a.length:Int)<3):=aa;have hal:a.length<e.length:=aa;have hx2:nth (0,0,0,0) e a.length=x:=by rw[qM _ _ hal];simp[e1]
  have hm:=hb x (by grind);have io:CP Y F.dF [lst di p,.agg [i8V x.1,i8V x.2.1,i8V x.2.2.1,i8V x.2.2.2]] (lst di (mkI p x)):=Nr hm.1 hm.2.1 hm.2.2.1 hm.2.2.2 hp;have l1:aN (lF i4D e)=some (I e.length):=rfl;have i1:=λh=>rD i4D QC e h (k:=.i64) (i:=(a.length:Int)) aa aa
  have i2:=λh=>rC i4D QC (0,0,0,0) e h (j:=a.length) hal
  rw[hx2]at i2;simp only[Int.toNat_natCast]at i1;have i2':∀h,ldA h 4 (.dptr (e.flatMap i4D) (a.length*4))=some (.agg [i8V x.1,i8V x.2.1,i8V x.2.2.1,i8V x.2.2.2]):=i2;obtain⟨H,hH⟩:∃H:Hp,H=[(1,.vars [.d (.int .u8 kk),lF i4D e,B vals]),b1,(acU 2).b a.length (a.map λx=>row (mkI p x)),b3]:=⟨_,rfl⟩;have g1:nr H 0 1=.vars [.d (.int .u8 kk),lF i4D e,B vals]:=by rw[hH];rfl
  have li1:fJ 1 [nPQ] [(0,lst di (mkI p x))] H=some ([row (mkI p x)],H):=WN ..;have sn:aO H [lst di p,.agg [i8V x.1,i8V x.2.1,i8V x.2.2.1,i8V x.2.2.2]]=some ([lst di p,.agg [i8V x.1,i8V x.2.1,i8V x.2.2.1,i8V x.2.2.2]],H):=by simp[aO,cF,i8V]
  rw[<-hH];simp only[jX];simp[hlt,h3,l1,g1,i1,i2'];refine cd io ?_ sn;simp[li1];refine nU (acU 2) (by_:=24) (k:=1) (cs:=[row (mkI p x)]) aa (by rw[hH];rfl) (by simp[acU]) (by rfl) rfl (by grind) aa (by simp[acU]) ?_
  have hs:H.set (acU 2).s ((acU 2).b (a.length+1) ((a.map λx=>row (mkI p x))++[row (mkI p x)]))=[(1,.vars [.d (.int .u8 kk),lF i4D e,B vals]),b1,(acU 2).b (a.length+1) ((a.map λx=>row (mkI p x))++[row (mkI p x)]),b3]:=by rw[hH];rfl
  rw[hs];have ih:=VZ (kk:=kk) (vals:=vals) he hb hp b1 b3 h0 K q (a++[x]) (by grind) hK;have e4:((a++[x]).length:Int)=(a.length:Int)+1:=ac;rw[e4,Xz,Zq]at ih;simp(disch:=try exact af)
  simp_all[dN]
theorem SE{k:Nat}{e:List I4}{vals:Bool}{E:Nat}{g w c:Mz}{f:Nat}(hk:k<256)(he:e.length<=3)(hb:∀x∈e,ok4 x)(hE:E<=10^9)(R:afh E (kV k).length (e.map (mkI (kV k))) g w c f) :
  CP Y F.eO [.agg [.d (.int .u8 k),lF i4D e,B vals]] (tpV (kV k) (if vals=true then w else c) (if vals=true then c else w)):=by
 refine xL ?_;obtain⟨p1,p2,p3,p4,p5⟩:=Vy _ (Bb k);obtain⟨p,hp⟩:=nmQ (kV k);have pk:=LH hk;rw[<-hp]at p1 p2 p3 p4 p5 R pk ⊢
 have bu:=OV p1 p3 p4 (by grind) (λr hr=>by
  obtain⟨x,_,rfl⟩:=Zw.1 hr
  grind[mkI,itv,i4L]) (λr hr z hz=>by
  grind[mkI,itv]) hE R vals
 obtain⟨C,hC⟩:=nmQ (if vals=true then w else c)
 obtain⟨W,hW⟩:=nmQ (if vals=true then c else w)
 rw[<-hC,<-hW]at bu ⊢;have em:mat (e.map (mkI p))=.d (.sl e.length (e.map λx=>row (mkI p x))):=by simp[lst,Function.comp_def]
 have ok1:∀m:Mz,okV (mat m)=true:=λ_=>rfl
 have ok2:okV (lst di p)=true:=rfl;have ok3:okV (lF i4D e)=true:=rfl;simp only[tpV]at bu;simp only[eO];simp[ok3];refine cd pk ?_;simp;refine lo (VZ (kk:=k) (vals:=vals) he hb p4 _ _ _ _ e [] rfl ?_);simp
 obtain⟨h',e1,hh⟩:=nC (acU 2) (L:=e.length) (cells:=e.map λx=>row (mkI p x)) (h:=[(1,.vars [.d (.int .u8 k),lF i4D e,B vals]),(1,.vars [.d nPQ,.d nPQ,.d nPQ]),(acU 2).b e.length (e.map λx=>row (mkI p x)),nnQ]) rfl (by simp[acU])
 obtain ⟨x,hx⟩:∃x,h'=[(1,.vars [.d (.int .u8 k),lF i4D e,B vals]),(1,.vars [.d nPQ,.d nPQ,.d nPQ]),x,nnQ]:=by
  rcases hh with⟨_,hh⟩|⟨_,hh⟩
  .grind
  .exact⟨_,hh⟩
 rw[<-em]at e1;have sp:∀h:Hp,cF h (lst di p)=some (lst di p,h):=λh=>rfl
 have sb:∀h:Hp,cF h (B vals)=some (B vals,h):=λh=>rfl
 refine qP (ds:=[lst di p,mat (e.map (mkI p)),B vals]) (h':=h') (by simp_all[aO]) bu ?_;rw[show ∀h:Hp,(if cI (V.tup [V.agg [lst di p,mat C,mat W],I 0])=true then h else h')=h' from λ_=>rfl,hx];simp[ok1,ok2];exact⟨_,by rfl⟩
structure aaD(p:LiQ)(C W:Mz):Prop where
 t:pP p C W
 hw:HmF p.length W
 hc:HmF p.length C
 bw:W.length=2->BdE 157464 W
theorem abh(hE6:10^6<=E)(hE:E<=10^9)(h1:∀m:Mz,m.length<=3->BdE 9 m->afg E m){e:List I4}(hk:k<256)(he:e.length<=3)(hb:∀x∈e,ok4 x):
  ∃C W,CP Y F.eO [.agg [.d (.int .u8 k),lF i4D e,B vals]] (tpV (kV k) C W)∧aaD (kV k) C W∧BdE E W:=by
 obtain⟨p1,p2,p3,p4,p5⟩:=Vy _ (Bb k);have hlen:∀y:I4,(mkI (kV k) y).length=(kV k).length:=λy=>by grind[mkI,itv,i4L]
 have hsm:∀(y:I4),∀z∈mkI (kV k) y,z.natAbs<=9:=λy z hz=>by
  grind[mkI,itv]
 have bd:BdE 9 (e.map (mkI (kV k))):=λi j=>by
  by_cases hi:i<(e.map (mkI (kV k))).length
  .by_cases hj:j<(kV k).length
   .have hel:nth [] (e.map (mkI (kV k))) i=mkI (kV k) (e[i]'(by grind)):=by rw[qM _ _ hi,List.getElem_map]
    grind[iT]
   .rw[TN (n:=(kV k).length) (λi hi=>by grind[qM]) aa];simp
  .rw[tX aa];simp
 obtain ⟨g,w,c,f,R⟩:=abM (n:=(kV k).length) (m:=e.map (mkI (kV k))) hE6 hE (h1 _ (by simpa using he) bd) p4 (by grind) (λi hi=>by
  grind[qM]) bd
 have lw:sE (kV k).length w:=zD p3 aa R.hw (R.bw.mono hE);have lc:sE (kV k).length c:=zD p3 aa R.hc (R.bc.mono ae);refine⟨_,_,SE (vals:=vals) hk he hb hE R,?_⟩;cases vals with
 |false=>exact⟨⟨⟨p1,lc,lw,JH aa R.hc (R.bc.mono ae),100000,f,Z8 _,R.cw,R.wc⟩,R.hw,R.hc,R.sw⟩,R.bw⟩
 |true=>exact⟨⟨⟨p1,lw,lc,JH aa R.hw (R.bw.mono hE),100000,f,Z8 _,R.wc,R.cw⟩,R.hc,R.hw,R.sc⟩,R.bc.mono hE6⟩
theorem ad9{e:List I4}(hk:k<256)(he:e.length<=3)(hb:∀x∈e,ok4 x):
  ∃C W,CP Y F.eO [.agg [.d (.int .u8 k),lF i4D e,B vals]] (tpV (kV k) C W)∧aaD (kV k) C W:=by obtain⟨C,W,h1,h2,_⟩:=abh (vals:=vals) (E:=10^9) ae ae (λ_ _=>af6) hk he hb;exact⟨C,W,h1,h2⟩
theorem KG{w:Int}(hz:ndg z.natAbs<1000000)(hw:ndg w.natAbs<1000000):CP Y F.d6 [S (itoa z),S (itoa w)] (I (sgn (z-w))):=by
 refine u9 ?_;simp[d6];refine cd (m7 z) ?_;simp;refine cd (m7 w) ?_;by_cases h:sgn z=sgn w
 .have sz:=rU (itoa z);have sw:=rU (itoa w);rw[sj,wS]at sz sw;simp[h];refine cd sz ?_;simp;refine cd sw ?_;simp;by_cases g:z<0
  .have g2:w<0:=by unfold sgn at h;split at h<;>split at h<;>first|omega|(split at h<;>first|omega|(split at h<;>omega))
   have e:Big.cmp w.natAbs z.natAbs=sgn (z-w):=by
    unfold Big.cmp sgn;split<;>split<;>first|omega|(split<;>omega)
   refine aC ?_;simp(disch:=try exact af)[g];refine cd (rP hw hz) ?_;exact aW e
  .have g2:¬w<0:=by unfold sgn at h;split at h<;>split at h<;>first|omega|(split at h<;>first|omega|(split at h<;>omega))
   have e:Big.cmp z.natAbs w.natAbs=sgn (z-w):=by
    unfold Big.cmp sgn;split<;>split<;>first|omega|(split<;>omega)
   refine aC ?_;simp(disch:=try exact af)[g];refine cd (rP hz hw) ?_;exact aW e
 .simp[h];by_cases g:sgn z<sgn w
  ·have e:(-1:Int)=sgn (z-w):=by
    revert g;unfold sgn
    split<;>split<;>(try split)<;>(try split)<;>(try split)<;>omega
   simp[g];exact aW e
  ·have e:(1:Int)=sgn (z-w):=by
    revert g h;unfold sgn
    split<;>split<;>(try split)<;>(try split)<;>(try split)<;>omega
   simp[g];exact aW e
theorem PC(h:0<d):sgn (z*d)=sgn z:=by
 have hd:(0:Int)<d:=aa;unfold sgn;by_cases h0:z=0
 .simp[h0]
 ·have h1:¬z*(d:Int)=0:=λe=>by
   rcases Int.mul_eq_zero.1 e with e|e<;>omega
  rw[if_neg h0,if_neg h1];by_cases h2:z<0
  .rw[if_pos h2,if_pos (Int.mul_neg_of_neg_of_pos h2 hd)]
  .rw[if_neg h2,if_neg (by have:=Int.mul_pos (show 0<z by omega) hd;omega)]
theorem FJ{a b:Q}(ha:okQ a)(hb:okQ b)(la:qL 100000 a)(lb:qL 100000 b):CP Y F.fE [.agg (qT a),.agg (qT b)] (I (sgn (a.1*b.2-b.1*a.2))):=by
 refine yJ ?_;have b1:=ui a;have b2:=ui b;have la1:=la.1;have la2:=la.2;have lb1:=lb.1;have lb2:=lb.2;have w1:=KG (z:=a.1) (w:=b.1) aa aa;have m1:=oi (z:=a.1) (w:=(b.2:Int)) aa (by rw[Int.natAbs_natCast];omega);have m2:=oi (z:=b.1) (w:=(a.2:Int)) aa (by rw[Int.natAbs_natCast];omega);rw[jC]at m1 m2
 have big:∀(z:Int)(n:Nat),ndg z.natAbs<=100000->ndg n<=100000->ndg (z*n).natAbs<1000000:=λz n h1 h2=>by
  have h3:=Ys (cJ z.natAbs) (cJ n);rw[<-Yr]at h3;have e:(z*(n:Int)).natAbs=z.natAbs*n:=by rw[Zm,Int.natAbs_natCast]
  rw[<-e]at h3;have h4:=dG (d:=ndg z.natAbs+ndg n+1) (Z2 h3 (Z3 ae aa)) aa;omega
 have w2:=KG (z:=a.1*b.2) (w:=b.1*a.2) (big _ _ la1 lb2) (big _ _ lb1 la2);simp[fE,qT];refine cd (args:=[.agg (qT a)]) b1 ?_ (by rfl);by_cases h1:sdg a.1<=9∧ndg a.2<=9
 .simp[h1.1,h1.2];refine aC ?_;simp;refine cd (args:=[.agg (qT b)]) b2 ?_ (by rfl);by_cases h2:sdg b.1<=9∧ndg b.2<=9
  ·have sm:∀(z:Int)(n:Nat),sdg z<=9->ndg n<=9->(z*n).natAbs<10^18:=λz n h1 h2=>by
    have h3:=Ys (re h1) (Z2 (cJ n) (Z3 ae h2));rw[Zm,Int.natAbs_natCast];exact Z2 h3 ae
   have s1:=sm a.1 b.2 h1.1 h2.2;have s2:=sm b.1 a.2 h2.1 h1.2;simp[h2.1,h2.2];generalize a.1*(b.2:Int)=x at *;generalize b.1*(a.2:Int)=y at *;have wx:IntKind.wrap .i64 x=x:=wrap_i64 ⟨aa,aa⟩;have wy:IntKind.wrap .i64 y=y:=wrap_i64 ⟨aa,aa⟩;rw[wx,wy];refine M9 (λg=>?_) (λg=>?_)
   .exact aW (by unfold sgn;rw[if_neg aa,if_pos aa])
   .simp[wx,wy];refine M9 (λg2=>?_) (λg2=>?_)
    .exact aW (by unfold sgn;rw[if_neg aa,if_neg aa])
    .exact aW (by unfold sgn;rw[if_pos aa])
  .have h2':(decide (sdg b.1<=9)&&decide (ndg b.2<=9))=false:=by grind
   simp[h2',-Bool.decide_and];by_cases e:a.2=b.2
   .have es:sgn (a.1*b.2-b.1*a.2)=sgn (a.1-b.1):=by rw[e,<-Int.sub_mul,PC hb.1]
    have e2:ah a.2=ah b.2:=by rw[e]
    simp(disch:=try exact af)[e2];refine cd w1 ?_;exact aW es.symm
   .have e2:¬ah a.2=ah b.2:=λh=>e (o8 h)
    simp(disch:=try exact af)[e2];refine cd m1 ?_;simp(disch:=try exact af);refine cd m2 ?_;simp(disch:=try exact af);refine cd w2 ?_;exact aW rfl
 .have h1':(decide (sdg a.1<=9)&&decide (ndg a.2<=9))=false:=by grind
  .simp[h1',-Bool.decide_and];refine aC ?_;simp;by_cases e:a.2=b.2
   .have es:sgn (a.1*b.2-b.1*a.2)=sgn (a.1-b.1):=by rw[e,<-Int.sub_mul,PC hb.1]
    have e2:ah a.2=ah b.2:=by rw[e]
    simp(disch:=try exact af)[e2];refine cd w1 ?_;exact aW es.symm
   .have e2:¬ah a.2=ah b.2:=λh=>e (o8 h)
    simp(disch:=try exact af)[e2];refine cd m1 ?_;simp(disch:=try exact af);refine cd m2 ?_;simp(disch:=try exact af);refine cd w2 ?_;exact aW rfl
structure EnS where
 lo:Option Q
 hi:Option Q
 em:Bool
def oT:Option Q->LwQ
 |some q=>qT q
 |none=>[S [],S []]
def enC(s:EnS):LwQ:=oT s.lo++oT s.hi++[B s.lo.isSome,B s.hi.isSome,B s.em]
def okE(s:EnS):Prop:=(∀q,s.lo=some q->okQ q∧qL 1000 q)∧∀q,s.hi=some q->okQ q∧qL 1000 q
def J4(a b:Q):Int:=sgn (a.1*b.2-b.1*a.2)
def zN(s:EnS)(b:Int)(k:Q):EnS:=
 if b>0 then(match s.lo with
  |none=>{s with lo:=some k}
  |some q=>if J4 k q>0 then{s with lo:=some k}else s)
 else (match s.hi with
  |none=>{s with hi:=some k}
  |some q=>if J4 k q<0 then{s with hi:=some k}else s)
def ot(s:EnS)(a b div:Int):EnS:=if b=0 then{s with em:=s.em||decide (a<0)}else zN s b (rr (fM (-a) div) (b,1))
theorem Df(k:Q):oT (some k)=[S (itoa k.1),S (ah k.2)]:=rfl
theorem Bg(o:Option Q):∃x y:LuQ,oT o=[S x,S y]:=by
 cases o with
 |none=>exact⟨_,_,rfl⟩
 |some q=>exact⟨_,_,rfl⟩
def kpH(x0 x1 x3:Nat×Bk)(e:Nat)(st:EnS):Hp:=[x0,x1,(e,.vars (enC st)),x3]
section
variable{x0 x1 x3:Nat×Bk}{e:Nat}
theorem wQ{st':EnS}{t:Hp}{cs:LwQ}(hu0:az 4 x0.2=true)(hu1:az 4 x1.2=true)(hu3:az 4 x3.2=true)(hst:enC st'=cs):od 4 (.tup []) (kpH x0 x1 x3 e st') (.tup []) (x0::x1::(e,.vars cs)::x3::t):=by
 subst hst;obtain⟨lo,hi,em⟩:=st';obtain⟨a1,a2,ha⟩:=Bg lo;obtain⟨b1,b2,hb⟩:=Bg hi;refine⟨rfl,?_,.inl ⟨rfl,rfl⟩⟩;have h2:az 4 (.vars (enC ⟨lo,hi,em⟩))=true:=by simp[enC,ha,hb,az,jv,under]
 grind[kpH]
theorem abO{st:EnS}{a b div:Int}(hst:okE st)(ha : -2000000000<=a∧a<=2000000000)(hb : -2000000000<=b∧b<=2000000000)(hd:div≠0)(hdb : -1000000000<=div∧div<=1000000000)
  (hu0:az 4 x0.2=true) (hu1:az 4 x1.2=true) (hu3:az 4 x3.2=true):CI Y F.fh [.ptr 2 e 0 7,I a,I b,I div] (kpH x0 x1 x3 e st) (.tup []) (kpH x0 x1 x3 e (ot st a b div)):=by
 refine vY ?_;obtain⟨E0,B0⟩:=x0;obtain⟨E1,B1⟩:=x1;obtain⟨E3,B3⟩:=x3;obtain⟨lo,hi,em⟩:=st;obtain⟨x1,x2,hx⟩:=Bg lo;obtain⟨y1,y2,hy⟩:=Bg hi;have hE:enC ⟨lo,hi,em⟩=[S x1,S x2,S y1,S y2,B lo.isSome,B hi.isSome,B em]:=by simp[enC,hx,hy]
 have hK:kpH (E0,B0) (E1,B1) (E3,B3) e ⟨lo,hi,em⟩=[(E0,B0),(E1,B1),(e,.vars [S x1,S x2,S y1,S y2,B lo.isSome,B hi.isSome,B em]),(E3,B3)]:=by rw[kpH,hE]
 rw[hK];simp only[fh];by_cases b0:b=0
 .subst b0;cases em with
  | true=>
   simp
   grind[wQ,ot]
  | false=>
   simp
   grind[wQ,enC,ot]
 .have f1:=wV (n:=-a) (d:=div) hd aa aa aa aa
  have f2:CP Y F.fD [I b,I 1] (.tup [.agg (qT (b,1)),I 0]):=by
   have:=wV (n:=b) (d:=1) ae aa aa ae ae
   rwa [EX]at this
  have lz:=uG (n:=-a) hd;have lL:qL 30 (fM (-a) div):=Bq (Z4 (pB aa aa) ae) (Z4 (pB aa aa) ae);have o2:=EQ b aa aa;have f3:=FI lz o2.1 aa (lL.mono aa) (o2.2.mono aa);have kO:okQ (rr (fM (-a) div) (b,1)):=PX lz aa
  have kL:qL 1000 (rr (fM (-a) div) (b,1)):=(Vq lL o2.2).mono aa;obtain⟨k,hk⟩:=nmQ (rr (fM (-a) div) (b,1))
  have hkf:ot ⟨lo,hi,em⟩ a b div=zN ⟨lo,hi,em⟩ b k:=by
   simp only[ot,if_neg b0,hk]
  rw[<-hk]at f3 kO kL;rw[hkf];generalize fM (-a) div=w1 at *;simp only[qT]at f1 f2 f3;simp(disch:=try exact af)[b0];refine cd f1 ?_;simp;refine cd f2 ?_ (by rfl);simp;refine cd f3 ?_ (by rfl);simp;refine aC ?_;by_cases bp:b>0
  .cases lo with
   | none=>
    simp[bp];refine aC ?_;simp
    grind[wQ,zN,enC,Df]
   | some q=>
    have q1:=hst.1 q rfl;have cm:=FJ kO q1.1 (kL.mono aa) (q1.2.mono aa);simp only[qT]at cm;simp only[oT,qT,List.cons.injEq,V.d.injEq,D.str.injEq,and_true]at hx;obtain⟨rfl,rfl⟩:=hx;simp[bp];refine cd cm ?_ (by rfl);by_cases cp:sgn (k.1*q.2-q.1*k.2)>0
    .simp[cp];refine aC ?_;simp
     grind[wQ,zN,enC,Df,J4]
    .have bn:¬b<0:=aa;simp[cp,bn];refine aC ?_;simp[bn];refine aC ?_;simp
     grind[wQ,zN,J4]
  .have bn:b<0:=aa;cases hi with
   | none=>
    simp[bp,bn];refine aC ?_;simp[bn];refine aC ?_;simp
    grind[wQ,zN,enC,Df]
   | some q=>
    have q1:=hst.2 q rfl;have cm:=FJ kO q1.1 (kL.mono aa) (q1.2.mono aa);simp only[qT]at cm;simp only[oT,qT,List.cons.injEq,V.d.injEq,D.str.injEq,and_true]at hy;obtain⟨rfl,rfl⟩:=hy;simp[bp];refine aC ?_;simp[bn];refine cd cm ?_ (by rfl);by_cases cp:sgn (k.1*q.2-q.1*k.2)<0
    .simp[cp];refine aC ?_;simp
     grind[wQ,zN,enC,Df,J4]
    .simp[cp];refine aC ?_;simp
     grind[wQ,zN,J4]
theorem XH{st:EnS}{a b div:Int}(hst:okE st)(ha : -2000000000<=a∧a<=2000000000)(hb : -2000000000<=b∧b<=2000000000)(hd:div≠0)(hdb : -1000000000<=div∧div<=1000000000):okE (ot st a b div):=by
 unfold ot;by_cases b0:b=0
 .rw[if_pos b0];exact hst
 .rw[if_neg b0];have lz:=uG (n:=-a) hd;have lL:qL 30 (fM (-a) div):=Bq (Z4 (pB aa aa) ae) (Z4 (pB aa aa) ae);have o2:=EQ b aa aa;have kO:okQ (rr (fM (-a) div) (b,1)):=PX lz aa;have kL:qL 1000 (rr (fM (-a) div) (b,1)):=(Vq lL o2.2).mono aa
  generalize rr (fM (-a) div) (b,1)=k at *;unfold zN;obtain⟨h1,h2⟩:=hst;obtain⟨lo,hi,em⟩:=st;split
  .split
   .exact⟨λq hq=>by grind,h2⟩
   .split
    .exact⟨λq hq=>by grind,h2⟩
    trivial
  .split
   .exact⟨h1,λq hq=>by grind⟩
   .split
    .exact⟨h1,λq hq=>by grind⟩
    trivial
end
structure Rg where
 lo:List Q
 hi:List Q
 hl:Bool
 hh:Bool
 em:Bool
def rgV(r:Rg):V:=.agg [szV r.lo,szV r.hi,B r.hl,B r.hh,B r.em]
def oD:Option Q->LdQ
 |some q=>[.str (itoa q.1),.str (ah q.2)]
 |none=>[.str [],.str []]
def enD(s:EnS):LdQ:=oD s.lo++oD s.hi++[.bool s.lo.isSome,.bool s.hi.isSome,.bool s.em]
def Rj(s:EnS):Bool:=match s.lo,s.hi with
 |some a,some b=>decide (J4 a b>0)
 |_,_=>false
def scQ(n:Nat)(q:Q):List Q:=vm n [nO n] [q]
def oS(n:Nat):Option Q->List Q
 |some q=>scQ n q
 |none=>[]
def asR(n:Nat)(s:EnS):Rg:=if s.em||Rj s then⟨[],[],false,false,true⟩else⟨oS n s.lo,oS n s.hi,s.lo.isSome,s.hi.isSome,false⟩
def okF(n:Nat)(o:Option Q):Prop:=∀q,o=some q->(okQ q∧qL 30 q)∧okS (scQ n q)
theorem Ot(h:Hp)(cs:LdQ)(i:Nat){d:D}(hd:cs[i]?=some d):ld1 h (.dptr cs i)=some (.d d):=by simp[ld1,hd]
theorem abK(h:Hp)(a b:D)(t:LdQ):ldA h 2 (.dptr (a::b::t) 0)=some (.agg [.d a,.d b]):=by rfl
theorem abJ(h:Hp)(x y a b:D)(t:LdQ):ldA h 2 (.dptr (x::y::a::b::t) 2)=some (.agg [.d a,.d b]):=by rfl
theorem Ug(x0:Nat×Bk)(v b c d e:V)(s:List Q):st [x0,(1,.vars [v,b,c,d,e])] 1 (.ptr 1 1 0 5) (szV s)=some [x0,(1,.vars [szV s,b,c,d,e])]:=rfl
theorem agZ{p:LiQ}{st:EnS}(hp:pcB p=0)(h0:0<p.length)(hN:p.length<1000)(h1:okF p.length st.lo)(h2:okF p.length st.hi):CP Y F.jj [.dptr (enD st) 0,lst di p] (.tup [rgV (asR p.length st),I 0]):=by
 refine yd ?_;obtain⟨lo,hi,em⟩:=st;have sc:∀q,(okQ q∧qL 30 q)∧okS (scQ p.length q)->CP Y F.gk [lst di p,.agg (qT q)] (.tup [szV (scQ p.length q),I 0]):=λq hq=>NT hp h0 hN hq.1 hq.2
 have okz:∀s:List Q,okV (szV s)=true:=λ_=>rfl
 obtain⟨a1,a2,hlo⟩:∃a1 a2,oD lo=[.str a1,.str a2]:=by cases lo<;>exact⟨_,_,rfl⟩
 obtain⟨b1,b2,hhi⟩:∃b1 b2,oD hi=[.str b1,.str b2]:=by cases hi<;>exact⟨_,_,rfl⟩
 obtain⟨C,hC⟩:=nmQ (enD ⟨lo,hi,em⟩);have hC2:C=[.str a1,.str a2,.str b1,.str b2,.bool lo.isSome,.bool hi.isSome,.bool em]:=by rw[hC];simp[enD,hlo,hhi]
 have l4:∀h,ld1 h (.dptr C 4)=some (B lo.isSome):=λh=>Ot h C 4 (by grind)
 have l5:∀h,ld1 h (.dptr C 5)=some (B hi.isSome):=λh=>Ot h C 5 (by grind)
 have l6:∀h,ld1 h (.dptr C 6)=some (B em):=λh=>Ot h C 6 (by grind)
 have m0:∀h,ldA h 2 (.dptr C 0)=some (.agg [S a1,S a2]):=λh=>by grind[abK]
 have m2:∀h,ldA h 2 (.dptr C 2)=some (.agg [S b1,S b2]):=λh=>by grind[abJ]
 rw[<-hC];simp only[jj];cases em with
 | true=>
  simp[l6];exact⟨_,rfl⟩
 | false=>
  cases lo with
  | none=>
   cases hi with
   | none=>
    simp[l6,l4,l5];refine aC ?_;simp[l5];refine aC ?_;simp;exact⟨_,rfl⟩
   | some b=>
    have hb:=h2 b rfl;have s2:=sc b hb;simp only[oD,List.cons.injEq,D.str.injEq,and_true]at hhi;obtain⟨rfl,rfl⟩:=hhi;simp only[qT]at s2;simp[l6,l4,l5];refine aC ?_;simp[l5];refine aC ?_;simp[m2];refine cd s2 ?_ (by rfl);simp[okz];exact⟨_,rfl⟩
  | some a=>
   have ha:=h1 a rfl;have s1:=sc a ha;simp only[oD,List.cons.injEq,D.str.injEq,and_true]at hlo;obtain⟨rfl,rfl⟩:=hlo;cases hi with
   | none=>
    simp only[qT]at s1;simp[l6,l4,l5];refine aC ?_;simp[m0];refine cd s1 ?_ (by rfl);simp[Ug,l5];refine aC ?_;simp;exact⟨_,rfl⟩
   | some b=>
    have hb:=h2 b rfl;have s2:=sc b hb;simp only[oD,List.cons.injEq,D.str.injEq,and_true]at hhi;obtain⟨rfl,rfl⟩:=hhi;have cm:=FJ ha.1.1 hb.1.1 (ha.1.2.mono aa) (hb.1.2.mono aa);simp only[qT]at s1 s2 cm;simp[l6,l4,l5,m0,m2];refine cd cm ?_ (by rfl);by_cases cp:sgn (a.1*b.2-b.1*a.2)>0
    .have ea:asR p.length ⟨some a,some b,false⟩=⟨[],[],false,false,true⟩:=by simp[asR,Rj,J4,cp]
     rw[ea];simp[cp];exact⟨_,rfl⟩
    .have ea:asR p.length ⟨some a,some b,false⟩=⟨scQ p.length a,scQ p.length b,true,true,false⟩:=by simp[asR,Rj,J4,cp,oS]
     rw[ea];simp[cp,l4,l5];refine aC ?_;simp[m0];refine cd s1 ?_ (by rfl);simp[Ug,l5];refine aC ?_;simp[m2];refine cd s2 ?_ (by rfl);simp[okz];exact⟨_,rfl⟩
def KX(div:Int):EnS->LiQ->Mz->EnS
 |st,_,[]=>st
 |st,r,s::q=>KX div (ot st (nth 0 s 0-nth 0 r 0) (nth 0 s 1-nth 0 r 1) div) s q
theorem Hr{rows:Mz}{div:Int}(hn:rows.length<1000)(h2:∀r∈rows,r.length=2∧bd9 r)(hd:div≠0)(hdb : -1000000000<=div∧div<=1000000000){x0 x1:Nat×Bk}(hu0:az 4 x0.2=true)(hu1:az 4 x1.2=true)
  (o0:offB [3] x0.2=true) (o1:offB [3] x1.2=true) (h0:Hp) (hh:∃a b c d,h0=[a,b,c,(0,d)]) (K:KL):∀(q a:Mz)(r:LiQ)(st:EnS),rows=a++r::q->okE st ->
  K (.exit 0) [] (kpH x0 x1 nnQ 1 (KX div st r q)) ->
  lp (lR (CX Y) (mat rows) (I div) (.ptr 2 1 0 7)) [3] h0 [I ((a.length:Int)+1)] (kpH x0 x1 nnQ 1 st) K
 | [],a,r,st,e,hst,hK=>by
  refine ai ?_;have hl:rows.length=a.length+1:=by rw[e];simp
  have l1:aN (mat rows)=some (I rows.length):=rfl;have hlt:¬((a.length:Int)+1<(rows.length:Int)):=aa;simp only[lR];simp[l1,hlt];exact hK
 | s::q,a,r,st,e,hst,hK=>by
  refine ai ?_;have hl:a.length+1<rows.length:=by rw[e];simp
  have l1:aN (mat rows)=some (I rows.length):=rfl;have hlt:((a.length:Int)+1<(rows.length:Int)):=aa;have hrm:r∈rows:=by rw[e];simp
  have hsm:s∈rows:=by rw[e];simp
  obtain⟨r2,rb⟩:=h2 r hrm;obtain⟨s2,sb⟩:=h2 s hsm;have R0:∀h:Hp,ixV h 1 (mat rows) (I a.length)=some (.dptr (rows.map row) a.length):=λh=>eY row rows h rfl aa
  have R1:∀h:Hp,ixV h 1 (mat rows) (I ((a.length:Int)+1))=some (.dptr (rows.map row) (a.length+1)):=λh=>eY row rows h aa hl
  have L0:∀h:Hp,ld1 h (.dptr (rows.map row) a.length)=some (lst di r):=λh=>by
   rw[mH row rows _ aa];simp only[e,Zh (Z8 _),Za,Zd];rfl
  have L1:∀h:Hp,ld1 h (.dptr (rows.map row) (a.length+1))=some (lst di s):=λh=>by
   have e5:rows[a.length+1]=s:=by simp[e]
   rw[mH row rows _ hl,e5];rfl
  have X:∀(t:LiQ),t.length=2->∀h:Hp,ixV h 1 (lst di t) (.d (.int .i64 0))=some (.dptr (t.map di) 0)∧ld1 h (.dptr (t.map di) 0)=some (I (nth 0 t 0))∧ixV h 1 (lst di t) (.d (.int .i64 1))=some (.dptr (t.map di) 1)∧ld1 h (.dptr (t.map di) 1)=some (I (nth 0 t 1)):=λt ht h=>
   ⟨eY di t h rfl aa,eX di 0 t h aa,eY di t h rfl aa,eX di 0 t h aa⟩
  have Xr:=X r r2;have Xs:=X s s2;have r0b:=rb (nth 0 r 0) (iT aa);have r1b:=rb (nth 0 r 1) (iT aa);have s0b:=sb (nth 0 s 0) (iT aa);have s1b:=sb (nth 0 s 1) (iT aa);have kp:=abO (x0:=x0) (x1:=x1) (x3:=nnQ) (e:=1) (a:=nth 0 s 0-nth 0 r 0) (b:=nth 0 s 1-nth 0 r 1) hst aa aa hd hdb hu0 hu1 rfl
  have kE:=XH (a:=nth 0 s 0-nth 0 r 0) (b:=nth 0 s 1-nth 0 r 1) hst aa aa hd hdb;have ih:=Hr hn h2 hd hdb hu0 hu1 o0 o1 h0 hh K q (a++[r]) s _ (by simp[e]) kE hK;have e4:((a++[r]).length:Int)=(a.length:Int)+1:=ac;rw[e4]at ih;obtain⟨H,hH⟩:=nmQ (kpH x0 x1 nnQ 1 st);rw[<-hH]at kp ⊢;simp only[lR]
  simp(disch:=try exact af)[l1,hlt,R1,L1,R0,L0,(Xr _).1,(Xr _).2.1,(Xr _).2.2.1,(Xr _).2.2.2,(Xs _).1,(Xs _).2.1,(Xs _).2.2.1,(Xs _).2.2.2];refine gP kp ?_ ac
  have cl:clean [3] [I ((a.length:Int)+1+1)] (kpH x0 x1 nnQ 1 (ot st (nth 0 s 0-nth 0 r 0) (nth 0 s 1-nth 0 r 1) div))=true:=by
   simp only[clean,Z7];refine⟨rfl,EP 0 _ λy hy=>?_⟩;simp only[kpH,Zy,Yv,or_false]at hy;rcases hy with rfl|rfl|rfl|rfl
   .exact o0
   .exact o1
   .obtain⟨a1,a2,e1⟩:=Bg (ot st (nth 0 s 0-nth 0 r 0) (nth 0 s 1-nth 0 r 1) div).lo;obtain⟨b1,b2,e2⟩:=Bg (ot st (nth 0 s 0-nth 0 r 0) (nth 0 s 1-nth 0 r 1) div).hi;simp only[enC,e1,e2];rfl
   .rfl
  have rs:aH [3] 0 h0 (kpH x0 x1 nnQ 1 (ot st (nth 0 s 0-nth 0 r 0) (nth 0 s 1-nth 0 r 1) div))=kpH x0 x1 nnQ 1 (ot st (nth 0 s 0-nth 0 r 0) (nth 0 s 1-nth 0 r 1) div):=by
   obtain⟨a',b',c',d',rfl⟩:=hh;obtain⟨A1,A2⟩:=a';obtain⟨B1,B2⟩:=b';obtain⟨C1,C2⟩:=c';obtain⟨X1,X2⟩:=x0;obtain⟨Y1,Y2⟩:=x1;rfl
  have ea:biI BinOp.add (I ((a.length:Int)+1)) (V.d (D.int IntKind.i64 1))=some (I ((a.length:Int)+1+1)):=by simp(disch:=try exact af)
  simp_all
theorem agF(st:EnS):JX (enC st)=some (enD st):=by obtain⟨lo,hi,em⟩:=st;cases lo<;>cases hi<;>rfl
theorem aeR(st:EnS):(enC st).length=7:=by obtain⟨lo,hi,em⟩:=st;cases lo<;>cases hi<;>rfl
def en0:EnS:=⟨none,none,false⟩
section
variable{p:LiQ}{c w:Mz}
theorem RY(h:pP p c w)(hg:gtB w=0){l:Mz}{x:LiQ}{q:Mz}(hlx:l=x::q)(hl:l.length<=60)(ho:∀x∈l,yU p w x)(hm:mzB p l=0)
  (h1:okF p.length (KX (nth 0 (nth [] w 0) 0) en0 (bh w x) (q.map (bh w))).lo) (h2:okF p.length (KX (nth 0 (nth [] w 0) 0) en0 (bh w x) (q.map (bh w))).hi) :
  CP Y F.gn [tpV p c w,mat l] (.tup [rgV (asR p.length (KX (nth 0 (nth [] w 0) 0) en0 (bh w x) (q.map (bh w)))),I 0]):=by
 refine za ?_;simp only[gn,tpV];obtain⟨div,hdiv⟩:=nmQ (nth 0 (nth [] w 0) 0)
 have w2:w.length=2:=by
  apply Classical.byContradiction;intro e;simp[gtB,e]at hg
 have hd:div≠0:=by
  rw[hdiv];intro e;simp[gtB,w2,e]at hg
 have hw0:nth [] w 0∈w:=by rw[cC _ _ _ aa];exact Yw _
 have hdb : -1000000000<=div∧div<=1000000000:=by
  rw[hdiv];exact h.lw.sm _ hw0 _ (iT (by rw[h.lw.rl _ hw0];exact h.lw.n0))
 have td:=IP h hg hl ho hm;have hn:=h.lc.n12;rw[<-hdiv]at td h1 h2 ⊢;simp;refine cd (args:=[tpV p c w,mat l]) td ?_ (by rfl);simp
 have hb:∀s∈l.map (bh w),s.length=2∧bd9 s:=λs hs=>by
  obtain⟨y,hy,rfl⟩:=Zw.1 hs;exact⟨by simp[bh,w2],(ho y hy).t⟩
 have e0:okE en0:=⟨λq hq=>(by cases hq),λq hq=>(by cases hq)⟩;refine lo (Hr (rows:=l.map (bh w)) (div:=div) (by grind) hb hd hdb (x0:=(1,.vars [lst di p,mat c,mat w])) (x1:=(1,.vars [nlV,nlV,B false,B false,B false])) rfl rfl rfl rfl _ ⟨_,_,_,_,rfl⟩ _ (q.map (bh w)) [] (bh w x) en0 (by grind) e0 ?_)
 have aso:=agZ (p:=p) (st:=KX div en0 (bh w x) (q.map (bh w))) h.pr h.lw.n0 aa h1 h2;generalize KX div en0 (bh w x) (q.map (bh w))=st at *;obtain⟨R,hR⟩:=nmQ (asR p.length st);rw[<-hR]at aso ⊢
 have sn:aO (kpH (1,.vars [lst di p,mat c,mat w]) (1,.vars [nlV,nlV,B false,B false,B false]) nnQ 1 st) [.ptr 2 1 0 7,lst di p]=some ([.dptr (enD st) 0,lst di p],[(1,.vars [lst di p,mat c,mat w]),(1,.vars [nlV,nlV,B false,B false,B false]),(1,.data 1 (enD st) false true),nnQ]):=by
  have g:ax (kpH (1,.vars [lst di p,mat c,mat w]) (1,.vars [nlV,nlV,B false,B false,B false]) nnQ 1 st) 2 1=.vars (enC st):=rfl;simp only[aO,cF,g,agF,aeR,if_true];rfl
 obtain⟨H,hH⟩:=nmQ (kpH (1,.vars [lst di p,mat c,mat w]) (1,.vars [nlV,nlV,B false,B false,B false]) nnQ 1 st);rw[<-hH]at sn ⊢;have g0:nr H 0 1=.vars [lst di p,mat c,mat w]:=by rw[hH];rfl
 simp[g0];refine qP sn aso ?_;have okz:∀s:List Q,okV (szV s)=true:=λ_=>rfl
 simp only[rgV,cI];simp[okz];exact⟨_,rfl⟩
end
section
variable{l:Int->Nat}{N:Nat}
end
theorem afO(s:List Q)(h:Hp)(hi:i<s.length):∃w,ixV h 2 (szV s) (I i)=some w∧ldA h 2 w=some (.agg (qT (nth (0,1) s i))):=by
 have h1:=rD bJ cg (s.map tx) h (k:=.i64) (i:=(i:Int)) aa (by grind);rw[Int.toNat_natCast]at h1;refine⟨_,h1,?_⟩;have h2:=rC bJ cg (tx (0,1)) (s.map tx) h (j:=i) (by grind);rw[h2]
 have e:nth (tx (0,1)) (s.map tx) i=tx (nth (0,1) s i):=by
  rw[cC _ _ _ (by grind),cC _ _ _ hi,List.getElem_map]
 rw[e];rfl
section
variable{a:Ad}
end
section
variable{a:Ad}
end
section
variable{a:Ad}
end
section
variable{a:Ad}
end
section
variable{a:Ad}
end
section
variable{a:Ad}
end
section
variable{a:Ad}
end
section
variable{a:Ad}
end
section
variable{a:Ad}
end
section
variable{a:Ad}
end
section
variable{a:Ad}
end
end Go.Vm
