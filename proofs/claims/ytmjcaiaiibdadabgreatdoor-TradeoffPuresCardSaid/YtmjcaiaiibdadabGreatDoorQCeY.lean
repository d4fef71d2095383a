/- Lemmas. -/
import Derived.Test.YtmjcaiaiibdadabGreatDoorQRefRow
set_option linter.unusedVariables false
set_option linter.unusedSimpArgs false
namespace Go.Vm
variable{n o i f k E E' M j A Bd:Nat}{r y:LiQ}{m m' z l:Mz}{L L':Nat->Nat}{v u:Ve}{s d c':Int}{x:Nat×Ve}{C:List (Nat×Ve)}
def CL(c o r i:Nat)(b:Bool)(m:Mz):Bool×Mz:=kU [] (λr=>r) (λ_ r=>r) c o r i b m
def upZ(c o r i:Nat)(m:Mz):Mz:=upG [] (λr=>r) (λ_ r=>r) c o r i m
structure IA(n c o i r:Nat)(m m':Mz):Prop where
 len:m'.length=m.length
 ln:Ln n m'
 sp:SpE m m'
 out:∀k,(k<i∨i+r<=k)->nth [] m' k=nth [] m k
 inn:∀k,i<=k->k<i+r->∀j,eZ m' k j=eZ m k j-(eZ m k c).fdiv (eZ m o c)*eZ m o j
theorem Eo{c r:Nat}(hl:Ln n m)(ho:o<m.length)(hi:i+(r+1)<=m.length)(hoi:o<i∨i+(r+1)<=o)(h:IA n c o (i+1) r (tkZ c o m i) m'):IA n c o i (r+1) m m':=by
 have eo:nth [] (tkZ c o m i) o=nth [] m o:=qE aa aa;refine⟨h.len.trans (sv ..),h.ln,(T8 hl aa ho aa).trans h.sp,λk hk=>?_,λk h1 h2 j=>?_⟩
 .rw[h.out k aa,qE aa aa]
 .by_cases hki:k=i
  .subst hki;have e1:nth [] m' k=nth [] (tkZ c o m k) k:=h.out k aa
   show nth 0 (nth [] m' k) j=_
   rw[e1];have:=QR (c:=c) hl (by omega:k<m.length) ho k j
   grind
  .have e2:=h.inn k aa aa j;have e3:nth [] (tkZ c o m i) k=nth [] m k:=qE aa hki
   grind
theorem IL{n c o:Nat}:∀(r i:Nat){m:Mz},Ln n m->o<m.length->i+r<=m.length->(o<i∨i+r<=o)->IA n c o i r m (upZ c o r i m)
 |0,i,m,hl,ho,hi,hoi=>⟨rfl,hl,SpE.refl m,λ_ _=>rfl,λk h1 h2=>by omega⟩
 | r+1,i,m,hl,ho,hi,hoi=>by
  have ih:=IL (c:=c) r (i+1) (m:=tkZ c o m i) (JB hl aa ho) (by rw[sv];exact ho) (by grind[sv]) aa;exact Eo hl ho hi hoi ih
theorem uL{n c o:Nat}:∀(r i:Nat)(b:Bool){m:Mz},Ln n m->o<m.length->i+r<=m.length->(o<i∨i+r<=o)->IA n c o i r m (CL c o r i b m).2∧((CL c o r i b m).1=false->b=false∧∀k,i<=k->k<i+r->(eZ m k c).fmod (eZ m o c)=0)
 |0,i,b,m,hl,ho,hi,hoi=>⟨⟨rfl,hl,SpE.refl m,λ_ _=>rfl,λk h1 h2=>by omega⟩,λh=>⟨h,λk h1 h2=>by omega⟩⟩
 | r+1,i,b,m,hl,ho,hi,hoi=>by
  have ih:=uL (c:=c) r (i+1) (b||decide ((eZ m i c).fmod (eZ m o c)≠0)) (m:=tkZ c o m i) (JB hl aa ho) (by rw[sv];exact ho) (by grind[sv]) aa;refine⟨Eo hl ho hi hoi ih.1,λh=>?_⟩;obtain⟨h1,h2⟩:=ih.2 h;simp only[Bool.or_eq_false_iff,decide_eq_false_iff_not,Decidable.not_not]at h1;refine⟨h1.1,λk a1 a2=>?_⟩;by_cases hki:k=i
  .grind
  .have e:=h2 k aa aa;have eo:nth [] (tkZ c o m i) o=nth [] m o:=qE aa aa;have ek:nth [] (tkZ c o m i) k=nth [] m k:=qE aa hki
   grind
def aZ(c:Nat)(m:Mz)(r i:Nat)(a:Int):Int:=atG [] (λr=>r) c m r i a
theorem D5(c:Nat)(m:Mz)(o:Nat):∀(r i:Nat)(a:Int),(a<0∧(∀k,o<=k->k<i->eZ m k c=0)∨(o:Int)<=a∧a<i∧eZ m a.toNat c≠0)->o<=i ->
  (aZ c m r i a<0∧(∀k,o<=k->k<i+r->eZ m k c=0)∨(o:Int)<=aZ c m r i a∧aZ c m r i a<(i+r:Nat)∧eZ m (aZ c m r i a).toNat c≠0)
 |0,i,a,h,hi=>by trivial
 | r+1,i,a,h,hi=>by
  have key:aZ c m (r+1) i a=aZ c m r (i+1) (if eZ m i c≠0∧(a<0∨(eZ m i c).natAbs<(eZ m a.toNat c).natAbs)then i else a):=rfl;rw[key];have e:i+1+r=i+(r+1):=aa;rw[<-e];refine D5 c m o r (i+1) _ ?_ aa;split
  .rename_i g;exact .inr ⟨aa,aa,by grind⟩
  .rename_i g;rcases h with⟨h1,h2⟩|⟨h1,h2,h3⟩
   .refine .inl ⟨h1,λk a1 a2=>?_⟩;by_cases hk:k=i
    .grind
    .exact h2 k a1 aa
   .exact .inr ⟨h1,aa,h3⟩
structure Hm(n c o:Nat)(L:Nat->Nat)(m:Mz):Prop where
 le:o<=m.length
 ln:Ln n m
 lt:∀i,i<o->L i<c
 inc:∀i j,i<j->j<o->L i<L j
 pos:∀i,i<o->0<eZ m i (L i)
 low:∀i,i<o->∀j,j<L i->eZ m i j=0
 red:∀i j,i<j->j<o->0<=eZ m i (L j)∧eZ m i (L j)<eZ m j (L j)
 zer:∀k,o<=k->k<m.length->∀j,j<c->eZ m k j=0
theorem QA{c:Nat}(H:Hm n c o L m)(hl:m'.length=m.length)(hn:Ln n m')(h1:∀i,i<o->nth [] m' i=nth [] m i)(h2:∀k,o<=k->k<m.length->∀j,j<c->eZ m' k j=0):Hm n c o L m' where
 le:=by rw[hl];exact H.le
 ln:=hn
 lt:=H.lt
 inc:=H.inc
 pos:=λi hi=>by have:=H.pos i hi;grind
 low:=λi hi j hj=>by grind[Hm.low]
 red:=λi j hij hj=>by have:=H.red i j hij hj;simp only[eZ,h1 i aa,h1 j hj];omega
 zer:=λk a b j hj=>h2 k a aa j hj
theorem abg{c:Nat}(H:Hm n c o L m)(h:∀k,o<=k->k<m.length->eZ m k c=0):Hm n (c+1) o L m where
 le:=H.le
 ln:=H.ln
 lt:=λi hi=>by have:=H.lt i hi;omega
 inc:=H.inc
 pos:=H.pos
 low:=H.low
 red:=H.red
 zer:=λk a b j hj=>by
  by_cases e:j=c
  .grind
  .exact H.zer k a b j aa
theorem adQ{c:Nat}(H:Hm n c o L m)(ho:o<m.length)(h0:eZ m o c≠0)(h1:∀k,o<k->k<m.length->eZ m k c=0):
  Hm n (c+1) (o+1) (λi=>if i=o then c else L i) (upZ c o o 0 (ngZ c o m))∧SpE m (upZ c o o 0 (ngZ c o m))∧(upZ c o o 0 (ngZ c o m)).length=m.length:=by
 obtain⟨m3,h3⟩:=nmQ (ngZ c o m);have l3:m3.length=m.length:=by rw[h3,Bs]
 have n3:Ln n m3:=by rw[h3];exact VO H.ln ho
 have r3:∀k,k≠o->nth [] m3 k=nth [] m k:=λk hk=>by rw[h3,wU ho,if_neg (λg=>hk g.1)]
 have o3:∀j,eZ m3 o j=if eZ m o c<0 then-eZ m o j else eZ m o j:=λj=>by
  simp only[eZ,h3];rw[wU ho];by_cases g:eZ m o c<0
  .rw[if_pos ⟨rfl,g⟩,if_pos g,zI]
  .rw[if_neg (λx=>g x.2),if_neg g]
 have p3:0<eZ m3 o c:=by rw[o3];split<;>omega
 have z3:∀j,j<c->eZ m3 o j=0:=λj hj=>by grind[Hm.zer]
 have U:=IL (c:=c) (o:=o) o 0 n3 aa aa (.inr aa);rw[<-h3];obtain⟨m4,h4⟩:=nmQ (upZ c o o 0 m3);rw[<-h4]at U ⊢
 have i4:∀i,i<o->∀j,eZ m4 i j=eZ m i j-(eZ m i c).fdiv (eZ m3 o c)*eZ m3 o j:=λi hi j=>by
  have:=U.inn i aa aa j;rw[this];simp only[eZ,r3 i aa]
 have j4:∀i,i<o->∀j,j<c->eZ m4 i j=eZ m i j:=λi hi j hj=>by grind
 have k4:∀k,o<=k->∀j,eZ m4 k j=eZ m3 k j:=λk hk j=>by simp only[eZ,U.out k (.inr aa)]
 have c4:∀i,i<o->0<=eZ m4 i c∧eZ m4 i c<eZ m3 o c:=λi hi=>by
  have e:eZ m4 i c=(eZ m i c).fmod (eZ m3 o c):=by
   rw[i4 i hi c,Int.fmod_def,W7]
  simp_all[Int.fmod_nonneg_of_pos,Int.fmod_lt_of_pos]
 refine⟨⟨by rw[U.len];omega,U.ln,λi hi=>?_,λi j hij hj=>?_,λi hi=>?_,λi hi j hj=>?_,λi j hij hj=>?_,λk a b j hj=>?_⟩,?_,by rw[U.len,l3]⟩
 .show(if i=o then c else L i)<c+1
  split
  .omega
  .have:=H.lt i aa;omega
 .show(if i=o then c else L i)<(if j=o then c else L j)
  rw[if_neg aa];split
  .exact H.lt i aa
  .exact H.inc i j hij aa
 .show 0<eZ m4 i (if i=o then c else L i)
  by_cases e:i=o
  .grind
  .rw[if_neg e,j4 i aa _ (H.lt i aa)];exact H.pos i aa
 .have hj:j<(if i=o then c else L i):=hj;by_cases e:i=o
  .grind
  .rw[if_neg e]at hj;have:=H.lt i aa;rw[j4 i aa _ aa];exact H.low i aa j hj
 .show 0<=eZ m4 i (if j=o then c else L j)∧eZ m4 i (if j=o then c else L j)<eZ m4 j (if j=o then c else L j)
  by_cases e:j=o
  .rw[if_pos e,e,k4 o (Z8 _)];exact c4 i aa
  .rw[if_neg e,j4 i aa _ (H.lt j aa),j4 j aa _ (H.lt j aa)];exact H.red i j hij aa
 .rw[U.len,l3]at b;rw[k4 k aa];have e:eZ m3 k j=eZ m k j:=by simp only[eZ,r3 k aa]
  rw[e];by_cases g:j=c
  .subst g;exact h1 k aa b
  .exact H.zer k aa b j aa
 grind[aaj,SpE.trans,IA.sp]
def rdZ(B c f o:Nat)(m:Mz):Option (Nat×Mz):=nD [] (λr=>r) (λ_ r=>r) B c f o m
theorem FM{n c B:Nat}:∀(f:Nat){o:Nat}{L:Nat->Nat}{m m':Mz}{o':Nat},Hm n c o L m->o<m.length->rdZ B c f o m=some (o',m')->(∃L',Hm n (c+1) o' L' m')∧SpE m m'∧m'.length=m.length
 |0,o,L,m,m',o',H,ho,h=>by cases h
 | f+1,o,L,m,m',o',H,ho,h=>by
  have key:rdZ B c (f+1) o m=if(m.all λa=>bdZ B a)=true then
   (if aZ c m (m.length-o) o (-1)<0 then some (o,m)else
    if(CL c o (m.length-(o+1)) (o+1) false (swZ m o (aZ c m (m.length-o) o (-1)).toNat)).1=true then rdZ B c f o (CL c o (m.length-(o+1)) (o+1) false (swZ m o (aZ c m (m.length-o) o (-1)).toNat)).2
    else some (o+1,upZ c o o 0 (ngZ c o (CL c o (m.length-(o+1)) (o+1) false (swZ m o (aZ c m (m.length-o) o (-1)).toNat)).2)))else none:=rfl
  rw[key]at h;have A:=D5 c m o (m.length-o) o (-1) (.inl ⟨aa,λk a b=>by omega⟩) (Z8 _);obtain⟨a,ha⟩:=nmQ (aZ c m (m.length-o) o (-1));rw[<-ha]at A h;split at h
  case isFalse=>cases h
  split at h
  .rename_i g;cases h;rcases A with⟨_,A⟩|⟨A,_⟩
   .exact⟨⟨L,abg H λk h1 h2=>A k h1 aa⟩,SpE.refl _,rfl⟩
   .omega
  .rename_i g;rcases A with⟨A,_⟩|⟨A1,A2,A3⟩
   .omega
   have hi:a.toNat<m.length:=aa;obtain⟨m1,h1⟩:=nmQ (swZ m o a.toNat);have l1:m1.length=m.length:=by rw[h1,wF]
   have n1:Ln n m1:=by rw[h1];exact JC H.ln ho hi
   have s1:SpE m m1:=by rw[h1];exact T9 ho hi
   have e1:∀k,nth [] m1 k=if k=a.toNat then nth [] m o else if k=o then nth [] m a.toNat else nth [] m k:=λk=>by grind[uM]
   have H1:Hm n c o L m1:=QA H l1 n1 (λi hi'=>by rw[e1,if_neg aa,if_neg aa]) (λk a1 a2 j hj=>by
    simp only[eZ,e1];split
    .grind[Hm.zer]
    .split
     .exact H.zer a.toNat aa hi j hj
     grind[Hm.zer])
   have p1:eZ m1 o c≠0:=by
    simp only[eZ,e1];split
    .grind
    .trivial
   rw[<-h1]at h;have S:=uL (n:=n) (c:=c) (o:=o) (m.length-(o+1)) (o+1) false n1 aa aa (.inl aa);obtain⟨s,hs⟩:=nmQ (CL c o (m.length-(o+1)) (o+1) false m1);rw[<-hs]at S h;obtain⟨S1,S2⟩:=S;have l2:s.2.length=m.length:=by rw[S1.len,l1]
   have eo:nth [] s.2 o=nth [] m1 o:=S1.out o (.inl aa)
   have H2:Hm n c o L s.2:=QA H1 S1.len S1.ln (λi hi'=>S1.out i (.inl aa)) (λk a1 a2 j hj=>by
    by_cases hk:k=o
    .subst hk;simp only[eZ,eo];exact H1.zer k (Z8 _) aa j hj
    .rw[S1.inn k aa aa j,H1.zer k a1 a2 j hj,H1.zer o (Z8 _) aa j hj];simp)
   split at h
   .have ih:=FM f H2 aa h;exact⟨ih.1,(s1.trans S1.sp).trans ih.2.1,by rw[ih.2.2,l2]⟩
   .rename_i gs;cases h;have z:=S2 (by grind)
    have E:=adQ (c:=c) H2 aa (by grind) (λk a1 a2=>by
     rw[S1.inn k aa aa c];have:=z.2 k aa aa;rw[Int.fmod_def,W7]at this;omega)
    exact⟨⟨_,E.1⟩,(s1.trans S1.sp).trans E.2.1,by rw[E.2.2,l2]⟩
def clZ(B f r c o:Nat)(m:Mz):Option (Nat×Mz):=pC [] (λr=>r) (λ_ r=>r) B f r c o m
theorem QB{n B f:Nat}:∀(r:Nat){c o:Nat}{L:Nat->Nat}{m m':Mz}{o':Nat},Hm n c o L m->clZ B f r c o m=some (o',m')->(∃L',Hm n (c+r) o' L' m')∧SpE m m'∧m'.length=m.length
 | 0,c,o,L,m,m',o',H,h=>by
  cases h
  grind[SpE.refl]
 | r+1,c,o,L,m,m',o',H,h=>by
  have h2:pC [] (λr=>r) (λ_ r=>r) B f (r+1) c o m=some (o',m'):=h;simp only[pC]at h2;split at h2
  .rename_i ho;split at h2
   .rename_i o1 m1 hr;obtain⟨⟨L1,H1⟩,s1,l1⟩:=FM f H ho hr;obtain⟨⟨L2,H2⟩,s2,l2⟩:=QB r H1 h2;exact⟨⟨L2,by rw[show c+(r+1)=c+1+r by omega];exact H2⟩,s1.trans s2,by rw[l2,l1]⟩
   trivial
  .rename_i ho;cases h2;have e:∀k,o<=k->k<m.length->False:=λk a b=>by omega
   exact⟨⟨L,⟨H.le,H.ln,λi hi=>by have:=H.lt i hi;omega,H.inc,H.pos,H.low,H.red,λk a b=>absurd (e k a b) id⟩⟩,SpE.refl _,rfl⟩
theorem DT{B columns:Nat}(hl:Ln n m)(h:rG B f columns m=some (o,m')):(∃L,Hm n columns o L m')∧SpE m m'∧m'.length=m.length:=by
 have H:Hm n 0 0 (λ_=>0) m:=⟨aa,hl,λi hi=>by omega,λi j h1 h2=>by omega,λi hi=>by omega,λi hi=>by omega,λi j h1 h2=>by omega,λk a b j hj=>by omega⟩;have:=QB (n:=n) (B:=B) (f:=f) columns H h
 grind
def ldZ(L:Nat->Nat)(m:Mz):Nat->Nat->List (Nat×Ve)
 |0,_=>[]
 |r+1,i=>(L i,ve (nth [] m i))::ldZ L m r (i+1)
theorem u5{L:Nat->Nat}{m:Mz}:∀{r i:Nat} {x},x∈ldZ L m r i->∃k,i<=k∧k<i+r∧x=(L k,ve (nth [] m k))
 |0,i,x,h=>by trivial
 | r+1,i,x,h=>by
  simp only[ldZ,Zw]at h;rcases h with rfl|h
  .exact⟨i,aa,aa,rfl⟩
  .obtain⟨k,a,b,e⟩:=u5 h;exact⟨k,aa,aa,e⟩
theorem tQ{n c o:Nat}{L:Nat->Nat}{m:Mz}(H:Hm n c o L m):∀(r i b:Nat),i+r=o->(i<o->b<=L i)->Hnf b (ldZ L m r i)
 |0,i,b,e,h=>trivial
 | r+1,i,b,e,h=>by
  refine⟨⟨h aa,H.pos i aa,λj hj=>H.low i aa j hj⟩,λx hx=>?_,tQ H r (i+1) (L i+1) aa (λhi=>by have:=H.inc i (i+1) aa hi;omega)⟩;obtain⟨k,a1,a2,rfl⟩:=u5 hx;exact H.red i k aa aa
theorem ac3{c:Nat}(H:Hm n c o L m)(hc:n<=c)(h1:o<=k)(h2:k<m.length):ve (nth [] m k)=λ_=>0:=funext λj=>by
 by_cases h:j<c
 .exact H.zer k h1 h2 j h
 .show nth 0 (nth [] m k) j=0
  have:=H.ln k h2;rw[nth,Z6,List.getElem?_eq_none aa];rfl
theorem qF{c:Nat}(H:Hm n c o L m)(hc:n<=c)(v:Ve):Spn (vs (ldZ L m o 0)) v↔SpZ m v:=by
 have key:∀r i k,i<=k->k<i+r->ve (nth [] m k)∈vs (ldZ L m r i):=by
  intro r
  induction r with
  |zero=>omega
  | succ r ih=>
   intro i k a b;simp only[vs,ldZ,Zq,Zw];by_cases e:k=i
   .exact .inl (by rw[e])
   .exact .inr (ih (i+1) k aa aa)
 constructor
 .intro h;refine Spn.le (λg hg=>?_) h;obtain⟨x,hx,rfl⟩:=Zx.1 hg;obtain⟨k,a1,a2,rfl⟩:=u5 hx;exact ic (by have:=H.le;omega)
 .intro h;refine Spn.le (λg hg=>?_) h;obtain⟨r,hr,rfl⟩:=Zx.1 hg;obtain⟨k,hk,rfl⟩:=Zi.1 hr;have e:m[k]=nth [] m k:=by rw[nth,Z6,List.getElem?_eq_getElem hk];rfl
  rw[e];by_cases hko:k<o
  .exact Spn.mem (key o 0 k aa aa)
  .rw[ac3 H hc aa hk];exact Spn.zero _
theorem ac4{a b:LiQ}(hl:a.length=b.length)(h:ve a=ve b):a=b:=by
 refine Ws hl λi h1 h2=>?_
 have:=congrFun h i
 grind[ve,nth]
theorem xy(L:Nat->Nat)(m:Mz):∀r i,(ldZ L m r i).length=r
 |0,_=>rfl
 |r+1,i=>by simp[ldZ,xy L m r (i+1)]
theorem Qs{L L':Nat->Nat}{m m':Mz}:∀{r i:Nat},ldZ L m r i=ldZ L' m' r i->∀k,i<=k->k<i+r->ve (nth [] m k)=ve (nth [] m' k)
 |0,i,_,k,a,b=>by omega
 | r+1,i,h,k,a,b=>by
  simp only[ldZ,List.cons.injEq,Z5]at h;by_cases e:k=i
  .grind
  .exact Qs h.2 k aa aa
def dtV:Nat->Ve->Ve->Int
 |0,_,_=>0
 |n+1,a,b=>dtV n a b+a n*b n
theorem xD(a u v:Ve):∀n,dtV n a (λi=>u i+v i)=dtV n a u+dtV n a v
 |0=>rfl
 |n+1=>by simp only[dtV,xD a u v n];grind
theorem vq(a u:Ve)(k:Int):∀n,dtV n a (λi=>k*u i)=k*dtV n a u
 |0=>by simp[dtV]
 |n+1=>by simp only[dtV,vq a u k n];grind
theorem qS(a:Ve):∀n,dtV n a (λ_=>0)=0
 |0=>rfl
 |n+1=>by simp[dtV,qS a n]
theorem qU(a b:Ve):∀n,dtV n a b=dtV n b a
 |0=>rfl
 |n+1=>by simp only[dtV,qU a b n];grind
def Krn(n:Nat)(S:Ve->Prop)(v:Ve):Prop:=(∀u,S u->dtV n u v=0)∧∀j,n<=j->v j=0
theorem FC{S T:Ve->Prop}(h:∀u,S u->T u)(hv:Krn n T v):Krn n S v:=⟨λu hu=>hv.1 u (h u hu),hv.2⟩
theorem Sx{S:Ve->Prop}(hS:∀u,S u->∀j,n<=j->u j=0)(v:Ve):Krn n (Krn n (Krn n S)) v↔Krn n S v:=by
 constructor
 .exact λh=>FC (λu hu=>⟨λw hw=>by rw[qU];exact hw.1 u hu,hS u hu⟩) h
 .exact λh=>⟨λu hu=>by rw[qU];exact hu.1 v h,h.2⟩
theorem Ay:∀{m:List Ve},(∀g∈m,dtV n g v=0)->∀{u},Spn m u->dtV n u v=0
 | m,h,u,⟨ks,e⟩=>by
  subst e;rw[qU]
  induction m generalizing ks with
  |nil=>cases ks<;>exact qS v n
  | cons g m ih=>
   cases ks with
   |nil=>exact qS v n
   | cons k ks=>
    have e:cmb (k::ks) (g::m)=λi=>(λi=>k*g i) i+cmb ks m i:=rfl
    rw[e,xD,vq,ih (λx hx=>h x (by simp[hx])) ks,qU v g,h g ac];simp
theorem tY(n:Nat)(m:Mz):(lI n m).length=n:=by simp[lI]
theorem Kw{c:Nat}(hc:c<n):nth [] (lI n m) c=m.map (λr=>nth 0 r c)++(List.replicate n (0:Int)).set c 1:=by rw[nth,Z6,lI,List.getElem?_map,List.getElem?_range hc];rfl
theorem ze{c:Nat}(hc:c<n)(i:Nat):ve (nth [] (lI n m) c) i=if i<m.length then ve (nth [] m i) c else if i=m.length+c then 1 else 0:=by
 rw[Kw hc]
 show nth 0 _ i=_
 by_cases h:i<m.length
 .rw[if_pos h,nth,Z6,List.getElem?_append_left (by grind),List.getElem?_map,List.getElem?_eq_getElem h];have e:nth [] m i=m[i]:=by rw[nth,Z6,List.getElem?_eq_getElem h];rfl
  rw[e];rfl
 .rw[if_neg h,nth,Z6,List.getElem?_append_right (by grind),List.length_map,List.getElem?_set,Zb];by_cases e:i=m.length+c
  .rw[if_pos aa,if_pos hc,if_pos e];rfl
  .rw[if_neg aa,if_neg e,List.getElem?_replicate]
   grind
def Wid(n:Nat)(m:Mz)(v:Ve):Prop:=(∀i,i<m.length->v i=dtV n (ve (nth [] m i)) λc=>v (m.length+c))∧∀j,m.length+n<=j->v j=0
theorem Wid.add(hu:Wid n m u)(hv:Wid n m v):Wid n m λi=>u i+v i:=
 ⟨λi hi=>by
  show u i+v i=dtV n _ λc=>u (m.length+c)+v (m.length+c)
  rw[hu.1 i hi,hv.1 i hi,<-xD],λj hj=>by simp only[hu.2 j hj,hv.2 j hj];rfl⟩
theorem Wid.mul(k:Int)(hu:Wid n m u):Wid n m λi=>k*u i:=
 ⟨λi hi=>by
  show k*u i=dtV n _ λc=>k*u (m.length+c)
  rw[hu.1 i hi,<-vq],λj hj=>by simp only[hu.2 j hj];simp⟩
theorem Wid.zero(n:Nat)(m:Mz):Wid n m λ_=>0:=⟨λi hi=>(qS _ _).symm,λ_ _=>rfl⟩
theorem Ax(a:Ve)(c:Nat):∀n,dtV n a (λj=>if j=c then 1 else 0)=if c<n then a c else 0
 |0=>rfl
 | n+1=>by
  simp only[dtV,Ax a c n];by_cases h:n=c
  .grind
  .rw[if_neg h];by_cases g:c<n
   .rw[if_pos g,if_pos aa];simp
   .rw[if_neg g,if_neg aa];simp
theorem ZY{c:Nat}(hc:c<n):Wid n m (ve (nth [] (lI n m) c)):=by
 refine⟨λi hi=>?_,λj hj=>?_⟩
 ·have e:(λx=>ve (nth [] (lI n m) c) (m.length+x))=λj=>if j=c then 1 else 0:=funext λx=>by
   rw[ze hc,if_neg aa];by_cases g:x=c
   .rw[if_pos aa,if_pos g]
   .rw[if_neg aa,if_neg g]
  grind[Ax,ze]
 .rw[ze hc,if_neg aa,if_neg aa]
theorem ac1(h:SpZ (lI n m) v):Wid n m v:=by
 obtain⟨ks,rfl⟩:=h
 have key:∀(l:List Ve),(∀g∈l,Wid n m g)->∀ks,Wid n m (cmb ks l):=by
  intro l
  induction l with
  |nil=>intro _ ks;cases ks<;>exact Wid.zero n m
  | cons g l ih=>
   intro hg ks;cases ks with
   |nil=>exact Wid.zero n m
   |cons k ks=>exact((hg g ac).mul k).add (ih (λx hx=>hg x (by grind)) ks)
 refine key _ (λg hg=>?_) ks;obtain⟨r,hr,rfl⟩:=Zx.1 hg;obtain⟨c,hc,rfl⟩:=Zi.1 hr;have hc':c<n:=by rw[tY]at hc;exact hc
 have e:(lI n m)[c]=nth [] (lI n m) c:=by rw[nth,Z6,List.getElem?_eq_getElem hc];rfl
 grind[ZY]
theorem Kx{n:Nat}{m:Mz}(v:Ve):∀t,t<=n->∃s,SpZ (lI n m) s∧(∀i,i<m.length->s i=dtV t (ve (nth [] m i)) λc=>v (m.length+c))∧(∀c,c<t->s (m.length+c)=v (m.length+c))∧∀c,t<=c->s (m.length+c)=0
 |0,_=>⟨λ_=>0,Spn.zero _,λi hi=>rfl,λc hc=>by omega,λc hc=>rfl⟩
 | t+1,ht=>by
  obtain⟨s,h1,h2,h3,h4⟩:=Kx (n:=n) (m:=m) v t aa;have hr:SpZ (lI n m) (ve (nth [] (lI n m) t)):=ic (m:=lI n m) (i:=t) (by grind[tY]);have e1:=λi=>ze (n:=n) (m:=m) (c:=t) aa i
  refine⟨λi=>s i+v (m.length+t)*ve (nth [] (lI n m) t) i,h1.add (hr.mul _),λi hi=>?_,λc hc=>?_,λc hc=>?_⟩
  .grind[dtV]
  .show s (m.length+c)+v (m.length+t)*ve (nth [] (lI n m) t) (m.length+c)=_
   rw[e1,if_neg aa];by_cases g:c=t
   .grind
   .rw[h3 c aa,if_neg aa];simp
  .show s (m.length+c)+v (m.length+t)*ve (nth [] (lI n m) t) (m.length+c)=_
   rw[e1,if_neg aa,h4 c aa,if_neg aa];simp
theorem ac0(h:Wid n m v):SpZ (lI n m) v:=by
 obtain⟨s,h1,h2,h3,h4⟩:=Kx (n:=n) (m:=m) v n (Z8 _)
 have e:s=v:=funext λi=>by
  by_cases hi:i<m.length
  .rw[h2 i hi,h.1 i hi]
  .obtain⟨c,rfl⟩:∃c,i=m.length+c:=⟨i-m.length,aa⟩;by_cases hc:c<n
   .grind
   .rw[h4 c aa,h.2 _ aa]
 grind
theorem He(v:Ve):SpZ (lI n m) v↔Wid n m v:=⟨ac1,ac0⟩
theorem yR:∀{m:List (Nat×Ve)}{o:Nat},Hnf o m->∀(k:Nat){v:Ve},Spn (vs m) v->(∀j,j<k->v j=0)->Spn (vs (m.filter λx=>decide (k<=x.1))) v
 |[],o,H,k,v,hv,h0=>hv
 | (l,h)::m,o,H,k,v,hv,h0=>by
  by_cases g:k<=l
  ·have e:((l,h)::m).filter (λx=>decide (k<=x.1))=(l,h)::m:=List.filter_eq_self.2 λx hx=>by
    rcases Zw.1 hx with rfl|hx
    .simpa using g
    .have:=yQ H.2.2 x hx;simp only[decide_eq_true_eq];omega
   rw[e];exact hv
  ·have e:((l,h)::m).filter (λx=>decide (k<=x.1))=m.filter (λx=>decide (k<=x.1)):=by
    rw[List.filter_cons_of_neg (by simpa using g)]
   rw[e];exact yR H.2.2 k (Ac H hv (h0 l aa)) h0
def BdE(E:Nat)(m:Mz):Prop:=∀i j,(eZ m i j).natAbs<=E
theorem BdE.mono(h:E<=E')(b:BdE E m):BdE E' m:=λi j=>Zy (b i j) h
theorem JS{a b:Int}(h:0<b):0<=a.fmod b∧a.fmod b<b:=⟨Int.fmod_nonneg_of_pos a h,Int.fmod_lt_of_pos a h⟩
theorem WW{a b:Int}(h:b<0):b<a.fmod b∧a.fmod b<=0:=by
 have:=JS (a:=-a) (b:=-b) aa
 simp_all
theorem XA{a b:Int}(h:b≠0):(a.fdiv b).natAbs<=a.natAbs:=by
 have key:∀(a b:Int),0<b->(a.fdiv b).natAbs<=a.natAbs:=λa b hb=>by
  have h1:=Int.mul_fdiv_add_fmod a b;have h2:=JS (a:=a) hb;generalize a.fdiv b=q at *;generalize a.fmod b=r at *;have h3:q.natAbs*1<=q.natAbs*b.natAbs:=Z1 _ aa;rcases Int.lt_trichotomy q 0 with hq|hq|hq
  .have h4:b*(-q)≥1*(-q):=Yb aa aa;have h5:b*(-q) = -(b*q):=Int.mul_neg ..;rcases Int.lt_trichotomy a 0 with ha|ha|ha
   .have h6:b*(-q-1)≥1*(-q-1):=Yb aa aa;have h7:b*(-q-1) = -(b*q)-b:=by rw[Int.mul_sub];omega
    omega
   .have h6:b*(-q)≥b*1:=Int.mul_le_mul_of_nonneg_left aa aa;omega
   .have h6:b*(-q)≥b*1:=Int.mul_le_mul_of_nonneg_left aa aa;omega
  .omega
  .have h4:b*q≥1*q:=Yb aa aa;omega
 rcases Int.lt_trichotomy b 0 with hb|hb|hb
 .have:=key (-a) (-b) aa
  simp_all
 .omega
 grind
theorem ZH{B:Nat}(h:BdE E m)(hE:E<10^B):(m.all λa=>bdZ B a)=true:=by
 rw[Z2];intro r hr;obtain⟨i,hi,rfl⟩:=Zi.1 hr
 show(m[i].all λx=>decide (x.natAbs<10^B))=true
 rw[Z2];intro x hx;obtain⟨j,hj,rfl⟩:=Zi.1 hx;have:=h i j
 grind[nth]
theorem Ep{c r:Nat}{Q:Nat}(S:IA n c o i r m m')(h:BdE E m)(hq:∀k,i<=k->k<i+r->((eZ m k c).fdiv (eZ m o c)).natAbs<=Q):BdE (E*(1+Q)) m':=λk j=>by
 have hE:E<=E*(1+Q):=Y5 _ aa;by_cases hk:i<=k∧k<i+r
 .rw[S.inn k hk.1 hk.2 j];have h1:=Int.natAbs_sub_le (eZ m k j) ((eZ m k c).fdiv (eZ m o c)*eZ m o j);rw[Zf]at h1;have h2:=Zr (hq k hk.1 hk.2) (h o j);have h3:=h k j
  grind
 .have:eZ m' k j=eZ m k j:=by simp only[eZ,S.out k aa]
  rw[this];exact Zy (h k j) hE
theorem acj{a:Nat}(ho:o<m.length)(ha:a<m.length)(h:BdE E m):BdE E (swZ m o a):=λk j=>by
 simp only[eZ,uM ho ha];split
 .exact h o j
 .split
  .exact h a j
  .exact h k j
theorem afq{c:Nat}(ho:o<m.length)(h:BdE E m):BdE E (ngZ c o m):=λk j=>by
 simp only[eZ,wU ho];split
 .rw[zI];have:=h o j
  grind
 .exact h k j
theorem ZM(c:Nat)(m:Mz)(o:Nat):∀(r i:Nat)(a:Int),(0<=a->∀k,o<=k->k<i->eZ m k c≠0->(eZ m a.toNat c).natAbs<=(eZ m k c).natAbs)->(a<0->∀k,o<=k->k<i->eZ m k c=0)->o<=i ->
  0<=aZ c m r i a->∀k,o<=k->k<i+r->eZ m k c≠0->(eZ m (aZ c m r i a).toNat c).natAbs<=(eZ m k c).natAbs
 |0,i,a,h,_,hi=>by trivial
 | r+1,i,a,h,h0,hi=>by
  have key:aZ c m (r+1) i a=aZ c m r (i+1) (if eZ m i c≠0∧(a<0∨(eZ m i c).natAbs<(eZ m a.toNat c).natAbs)then i else a):=rfl;rw[key];have e:i+1+r=i+(r+1):=aa;rw[<-e];refine ZM c m o r (i+1) _ ?_ ?_ aa
  .split
   .rename_i g;intro _ k a1 a2 hk;by_cases ek:k=i
    .grind
    .rcases g.2 with g2|g2
     .exact absurd (h0 g2 k a1 aa) hk
     .by_cases ha:0<=a
      .have:=h ha k a1 aa hk
       grind
      .exact absurd (h0 aa k a1 aa) hk
   .rename_i g;intro ha k a1 a2 hk;by_cases ek:k=i
    .grind
    .exact h ha k a1 aa hk
  .split
   .omega
   .rename_i g;intro ha k a1 a2;by_cases ek:k=i
    .grind
    .exact h0 ha k a1 aa
theorem yo{n c o:Nat}:∀(r i:Nat)(b:Bool){m:Mz},Ln n m->o<m.length->i+r<=m.length->(o<i∨i+r<=o)->(CL c o r i b m).1=true->b=true∨∃k,i<=k∧k<i+r∧(eZ m k c).fmod (eZ m o c)≠0
 |0,i,b,m,hl,ho,hi,hoi,h=>.inl h
 | r+1,i,b,m,hl,ho,hi,hoi,h=>by
  have ih:=yo (c:=c) r (i+1) (b||decide ((eZ m i c).fmod (eZ m o c)≠0)) (m:=tkZ c o m i) (JB hl aa ho) (by grind[sv]) (by grind[sv]) aa h;rcases ih with ih|⟨k,a1,a2,a3⟩
  .grind
  .have eo:nth [] (tkZ c o m i) o=nth [] m o:=qE aa aa;have ek:nth [] (tkZ c o m i) k=nth [] m k:=qE aa aa;simp only[eZ,eo,ek]at a3;exact .inr ⟨k,aa,aa,a3⟩
theorem Dl(B c f o:Nat)(m:Mz):rdZ B c (f+1) o m=if(m.all λa=>bdZ B a)=true then
   (if aZ c m (m.length-o) o (-1)<0 then some (o,m)else
    if(CL c o (m.length-(o+1)) (o+1) false (swZ m o (aZ c m (m.length-o) o (-1)).toNat)).1=true then rdZ B c f o (CL c o (m.length-(o+1)) (o+1) false (swZ m o (aZ c m (m.length-o) o (-1)).toNat)).2
    else some (o+1,upZ c o o 0 (ngZ c o (CL c o (m.length-(o+1)) (o+1) false (swZ m o (aZ c m (m.length-o) o (-1)).toNat)).2)))else none:=rfl
theorem Jb{B c:Nat}:∀(f g:Nat){o:Nat}{m:Mz}{r:Nat×Mz},rdZ B c f o m=some r->f<=g->rdZ B c g o m=some r
 |0,g,o,m,r,h,_=>by cases h
 |f+1,0,o,m,r,h,hg=>by omega
 | f+1,g+1,o,m,r,h,hg=>by
  rw[Dl]at h ⊢;split at h
  .rename_i h1;rw[if_pos h1];split at h
   .grind
   .rename_i h2;rw[if_neg h2];split at h
    .rename_i h3;rw[if_pos h3];exact Jb f g h aa
    grind
  .cases h
theorem XL{c:Nat}(hl:Ln n m)(ho:o<m.length)(h0:eZ m o c≠0)(h:BdE E m):BdE (2*E*E) (upZ c o o 0 (ngZ c o m)):=by
 have h1:=afq (c:=c) ho h;have l1:(ngZ c o m).length=m.length:=Bs c o m
 have h2:eZ (ngZ c o m) o c≠0:=by
  simp only[eZ,wU ho];split
  .grind[zI]
  .exact h0
 have hE:1<=E:=by have:=h o c;omega
 refine BdE.mono ?_ (Ep (Q:=E) (IL (c:=c) o 0 (VO hl ho) aa aa (.inr aa)) h1 (λk _ _=>Zy (XA h2) (h1 k c)));rw[Zm,Ya,Nat.mul_assoc,Nat.two_mul];have:E*1<=E*E:=Z1 _ hE;omega
theorem ada{p:Nat}(h:p<=M):2*p*(M-p)<=M*M:=by
 obtain⟨d,rfl⟩:∃d,M=p+d:=⟨M-p,aa⟩
 grind
theorem ahm{p p':Nat}(h0:0<p)(h:p<=M)(h1:p'<=p)(h2:M/p=1->p'<=M-p):(1+M/p)*p*p'<=M*M:=by
 have hq:1<=M/p:=(Xj h0).2 aa;have hm:M/p*p<=M:=Wq M p;by_cases e:M/p=1
 .have:=h2 e;rw[e];exact Zy (Z1 _ this) (ada h)
 .generalize M/p=q at *
  have h3:1+q<=q*q:=by
   have:2*q<=q*q:=Zu _ aa;omega
  calc (1+q)*p*p'<=q*q*p*p:=Zr (Zu _ h3) h1
   _=(q*p)*(q*p):=by rw[Nat.mul_assoc q q p,Nat.mul_assoc q (q*p) p,Nat.mul_assoc q p p,Nat.mul_assoc q p (q*p),Y0 p q p]
   _<=M*M:=Zr hm hm
structure ZU(n c o:Nat)(s:Int)(E M:Nat)(m:Mz):Prop where
 ln:Ln n m
 ho:o<m.length
 hs:s=1∨s = -1
 col:∀k,o<=k->k<m.length->0<=s*eZ m k c∧s*eZ m k c<=M
 bd:BdE E m
theorem adn{B c W:Nat}(hW:W<10^B):∀(p:Nat){E M:Nat}{m:Mz},ZU n c o s E M m->1<=E->(∃k,o<=k∧k<m.length∧eZ m k c≠0∧(eZ m k c).natAbs<=p)->2*E*(M*M)*p<=W ->
  ∃f o' m',rdZ B c f o m=some (o',m')∧BdE (2*W*W) m'∧o'=o+1:=by
 intro p
 induction p using Nat.strongRecOn with
 |ind p ih=>
 intro E M m S hE ⟨k0,k1,k2,k3,k4⟩ hw;have ho:=S.ho;have A:=D5 c m o (m.length-o) o (-1) (.inl ⟨aa,λk a b=>by omega⟩) (Z8 _);have A2:=ZM c m o (m.length-o) o (-1) (λh=>by omega) (λ_ k a b=>by omega) (Z8 _);obtain⟨a,ha⟩:=nmQ (aZ c m (m.length-o) o (-1));rw[<-ha]at A A2;rcases A with⟨_,A⟩|⟨a1,a2,a3⟩
 .exact absurd (A k0 k1 aa) k3
 have hi:a.toNat<m.length:=aa;have amin:=A2 aa;obtain⟨p0,hp0⟩:=nmQ ((eZ m a.toNat c).natAbs);have p0p:p0<=p:=by rw[hp0];exact Zy (amin k0 k1 aa k3) k4
 have p0pos:0<p0:=aa;have ca:=S.col a.toNat aa hi;have sp0:s*eZ m a.toNat c=p0:=by rcases S.hs with h|h<;>subst h<;>omega
 have p0M:p0<=M:=aa;obtain⟨m1,h1⟩:=nmQ (swZ m o a.toNat);have l1:m1.length=m.length:=by rw[h1,wF]
 have n1:Ln n m1:=by rw[h1];exact JC S.ln ho hi
 have e1:∀k,nth [] m1 k=if k=a.toNat then nth [] m o else if k=o then nth [] m a.toNat else nth [] m k:=λk=>by grind[uM]
 have b1:BdE E m1:=by rw[h1];exact acj ho hi S.bd
 have eo:eZ m1 o c=eZ m a.toNat c:=by
  simp only[eZ,e1];split
  .grind
  .rw[if_pos trivial]
 have any1:∀k,o<=k->k<m.length->∃k',o<=k'∧k'<m.length∧eZ m1 k c=eZ m k' c:=λk q1 q2=>by
  simp only[eZ,e1];split
  .grind
  .split
   .exact⟨a.toNat,aa,hi,rfl⟩
   grind
 obtain⟨Q,hQ⟩:=nmQ (M/p0)
 -- a row behind
 have row:∀k,o<=k->k<m.length->0<=(eZ m1 k c).fdiv (eZ m1 o c)∧((eZ m1 k c).fdiv (eZ m1 o c)).natAbs<=Q∧0<=s*(eZ m1 k c).fmod (eZ m1 o c)∧s*(eZ m1 k c).fmod (eZ m1 o c)<p0 ∧
   s*eZ m1 k c=p0*(eZ m1 k c).fdiv (eZ m1 o c)+s*(eZ m1 k c).fmod (eZ m1 o c)∧s*eZ m1 k c<=M:=λk q1 q2=>by
  obtain⟨k',r1,r2,r3⟩:=any1 k q1 q2;have c1:=S.col k' r1 r2;rw[<-r3]at c1;have d1:=Int.mul_fdiv_add_fmod (eZ m1 k c) (eZ m1 o c);have sp1:s*eZ m1 o c=p0:=by rw[eo];exact sp0
  have f1:0<=s*(eZ m1 k c).fmod (eZ m1 o c)∧s*(eZ m1 k c).fmod (eZ m1 o c)<p0:=by
   rcases S.hs with h|h
   .subst h;have:=JS (a:=eZ m1 k c) (b:=eZ m1 o c) aa;omega
   .subst h;have:=WW (a:=eZ m1 k c) (b:=eZ m1 o c) aa;omega
  generalize(eZ m1 k c).fdiv (eZ m1 o c)=q at *;generalize(eZ m1 k c).fmod (eZ m1 o c)=r at *;have g1:s*eZ m1 k c=p0*q+s*r:=by rw[<-d1,Int.mul_add,<-Int.mul_assoc,sp1]
  have q0:0<=q:=by
   rcases Int.lt_or_le q 0 with hq|hq
   .have:(p0:Int)*q<=p0*(-1):=Int.mul_le_mul_of_nonneg_left aa aa;omega
   .exact hq
  refine⟨q0,?_,f1.1,f1.2,g1,c1.2⟩;rw[hQ,Xj p0pos]
  have:(q.natAbs*p0:Int)<=M:=by
   rw[Xf q0,W7];omega
  omega
 have SW:=uL (n:=n) (c:=c) (o:=o) (m.length-(o+1)) (o+1) false n1 aa aa (.inl aa);have SR:=yo (n:=n) (c:=c) (o:=o) (m.length-(o+1)) (o+1) false n1 aa aa (.inl aa);obtain⟨s2,hs2⟩:=nmQ (CL c o (m.length-(o+1)) (o+1) false m1);rw[<-hs2]at SW SR;obtain⟨SW,_⟩:=SW
 have b2:BdE (E*(1+Q)) s2.2:=Ep SW b1 λk q1 q2=>(row k aa aa).2.1
 have l2:s2.2.length=m.length:=by rw[SW.len,l1]
 have eo2:eZ s2.2 o c=eZ m1 o c:=by simp only[eZ,SW.out o (.inl aa)]
 have M1:1<=M:=aa
 have hEW:E*(1+Q)<=W:=by
  refine Zy ?_ hw;have hQM:Q<=M:=by rw[hQ];exact Yw M p0
  have t1:M*1<=M*M:=Z1 _ M1;have t2:E*(1+Q)<=E*(2*(M*M)):=Z1 _ aa;have t3:E*(2*(M*M))*1<=E*(2*(M*M))*p:=Z1 _ aa;rw[Zo 2 E,Nat.mul_assoc E 2];omega
 have hE2:E<=E*(1+Q):=Y5 _ aa;have hall:=ZH (B:=B) S.bd aa
 have step:∀f,rdZ B c (f+1) o m=if s2.1=true then rdZ B c f o s2.2 else some (o+1,upZ c o o 0 (ngZ c o s2.2)):=λf=>by
  rw[Dl,if_pos hall,<-ha,if_neg aa,<-h1,<-hs2]
 cases hb:s2.1 with
 | false=>
  refine⟨1,_,_,by rw[step,hb];rfl,?_,rfl⟩;refine BdE.mono ?_ (XL (c:=c) SW.ln aa aa b2);exact Zr (Z1 _ hEW) hEW
 | true=>
  rcases SR hb with h|⟨k,q1,q2,q3⟩
  .cases h
  obtain⟨r1,r2,r3,r4,r5,r6⟩:=row k aa aa;obtain⟨p',hp'⟩:=nmQ (((eZ m1 k c).fmod (eZ m1 o c)).natAbs);have sp':s*(eZ m1 k c).fmod (eZ m1 o c)=p':=by rcases S.hs with h|h<;>subst h<;>omega
  have p'lt:p'<p0:=aa
  have val:∀k,o<k->k<m.length->eZ s2.2 k c=(eZ m1 k c).fmod (eZ m1 o c):=λk a b=>by
   rw[SW.inn k aa aa c,Int.fmod_def,W7]
  have S2:ZU n c o s (E*(1+Q)) p0 s2.2:=⟨SW.ln,aa,S.hs,λk a b=>by
   by_cases hk:k=o
   .grind
   .rw[val k aa aa];have:=row k a aa;omega,b2⟩
  have hkey:(1+Q)*p0*p'<=M*M:=by
   rw[hQ];refine ahm p0pos p0M aa λe=>?_
   rw[<-hQ]at e;have nz:eZ m1 k c≠0:=λhz=>q3 (by rw[hz,Int.zero_fmod])
   obtain⟨k',t1,t2,t3⟩:=any1 k aa aa;have hm:=amin k' t1 aa aa;rw[<-t3,<-hp0]at hm
   have hx:s*eZ m1 k c=(eZ m1 k c).natAbs:=by
    have:0<=s*eZ m1 k c:=by
     have:=S.col k' t1 t2;rw[<-t3]at this;exact this.1
    rcases S.hs with h|h<;>subst h<;>omega
   generalize(eZ m1 k c).fdiv (eZ m1 o c)=q at *
   have q1:q=1:=by
    rcases Int.lt_or_le q 1 with h|h
    .have:q=0:=aa
     grind
    .omega
   subst q1;omega
  obtain ⟨f,o',m',g1,g2,g3⟩:=ih p' aa S2 aa ⟨k,aa,aa,by rw[val k aa aa];exact q3,by rw[val k aa aa];omega⟩ (by
   refine Zy ?_ hw
   calc 2*(E*(1+Q))*(p0*p0)*p'=2*E*p0*((1+Q)*p0*p'):=by grind
    _<=2*E*p0*(M*M):=Z1 _ hkey
    _<=2*E*p*(M*M):=Zu _ (Z1 _ p0p)
    _=2*E*(M*M)*p:=by grind)
  exact⟨f+1,o',m',by rw[step,hb,if_pos rfl];exact g1,g2,g3⟩
theorem N6(E:Nat)(h:1<=E):∀k,1<=E^k:=λk=>Nat.one_le_pow k E h
theorem ado{B c:Nat}(hl:Ln n m)(ho:o<m.length)(hE:1<=E)(hb:BdE E m)(hW:4*E^5<10^B):
  ∃f o' m',rdZ B c f o m=some (o',m')∧BdE (32*E^10) m'∧(o'=o+1∨o'=o∧m'=m):=by
 have A:=D5 c m o (m.length-o) o (-1) (.inl ⟨aa,λk a b=>by omega⟩) (Z8 _);obtain⟨a,ha⟩:=nmQ (aZ c m (m.length-o) o (-1));rw[<-ha]at A;have e4:=N6 E hE 4;have e9:=N6 E hE 9;have t5:E*1<=E*E^4:=Z1 _ e4;have t10:E*1<=E*E^9:=Z1 _ e9;have p5:E^5=E*E^4:=by rw[Nat.pow_succ,Zo]
 have p10:E^10=E*E^9:=by rw[Nat.pow_succ,Zo]
 have hall:=ZH (B:=B) hb aa;by_cases hneg:a<0
 .exact⟨1,o,m,by rw[Dl,if_pos hall,<-ha,if_pos hneg],hb.mono aa,.inr ⟨rfl,rfl⟩⟩
 rcases A with⟨h,_⟩|⟨a1,a2,a3⟩
 .omega
 have hi:a.toNat<m.length:=aa;obtain⟨p0,hp0⟩:=nmQ ((eZ m a.toNat c).natAbs);have p0pos:0<p0:=aa;have p0E:p0<=E:=by rw[hp0];exact hb _ _
 obtain⟨m1,h1⟩:=nmQ (swZ m o a.toNat);have l1:m1.length=m.length:=by rw[h1,wF]
 have n1:Ln n m1:=by rw[h1];exact JC hl ho hi
 have e1:∀k,nth [] m1 k=if k=a.toNat then nth [] m o else if k=o then nth [] m a.toNat else nth [] m k:=λk=>by grind[uM]
 have b1:BdE E m1:=by rw[h1];exact acj ho hi hb
 have eo:eZ m1 o c=eZ m a.toNat c:=by
  simp only[eZ,e1];split
  .grind
  .rw[if_pos trivial]
 have SW:=uL (n:=n) (c:=c) (o:=o) (m.length-(o+1)) (o+1) false n1 aa aa (.inl aa);have SR:=yo (n:=n) (c:=c) (o:=o) (m.length-(o+1)) (o+1) false n1 aa aa (.inl aa);obtain⟨s2,hs2⟩:=nmQ (CL c o (m.length-(o+1)) (o+1) false m1);rw[<-hs2]at SW SR;obtain⟨SW,_⟩:=SW
 have b2:BdE (2*(E*E)) s2.2:=BdE.mono (by
  rw[Zm,Ya];have:E*1<=E*E:=Z1 _ hE;omega) (Ep (Q:=E) SW b1 λk q1 q2=>Zy (XA aa) (b1 k c))
 have l2:s2.2.length=m.length:=by rw[SW.len,l1]
 have eo2:eZ s2.2 o c=eZ m1 o c:=by simp only[eZ,SW.out o (.inl aa)]
 have step:∀f,rdZ B c (f+1) o m=if s2.1=true then rdZ B c f o s2.2 else some (o+1,upZ c o o 0 (ngZ c o s2.2)):=λf=>by
  rw[Dl,if_pos hall,<-ha,if_neg hneg,<-h1,<-hs2]
 have q4:E*E*(E*E)*1<=E*E*(E*E)*E^6:=Z1 _ (N6 E hE 6);have q10:E*E*(E*E)*E^6=E^10:=by grind
 cases hbb:s2.1 with
 | false=>
  refine⟨1,_,_,by rw[step,hbb];rfl,?_,.inl rfl⟩;refine BdE.mono ?_ (XL (c:=c) SW.ln aa aa b2);have:2*(2*(E*E))*(2*(E*E))=8*(E*E*(E*E)):=by grind
  omega
 | true=>
  rcases SR hbb with h|⟨k,q1,q2,q3⟩
  .cases h
  have val:∀k,o<k->k<m.length->eZ s2.2 k c=(eZ m1 k c).fmod (eZ m1 o c):=λk a b=>by
   rw[SW.inn k aa aa c,Int.fmod_def,W7]
  obtain ⟨s,hs,sp0⟩:∃s:Int,(s=1∨s = -1)∧s*eZ m1 o c=p0:=by
   rw[eo];by_cases h:0<eZ m a.toNat c
   .exact⟨1,.inl rfl,aa⟩
   .exact⟨-1,.inr rfl,aa⟩
  have sg:∀k,0<=s*(eZ m1 k c).fmod (eZ m1 o c)∧s*(eZ m1 k c).fmod (eZ m1 o c)<p0:=λk=>by
   rcases hs with h|h
   .subst h;have:=JS (a:=eZ m1 k c) (b:=eZ m1 o c) aa;omega
   .subst h;have:=WW (a:=eZ m1 k c) (b:=eZ m1 o c) aa;omega
  have S2:ZU n c o s (2*(E*E)) p0 s2.2:=⟨SW.ln,aa,hs,λk a b=>by
   by_cases hk:k=o
   .grind
   .rw[val k aa aa]
    grind,b2⟩
  have e2:1<=E*E:=by have:1*1<=E*E:=Zr hE hE;omega
  obtain ⟨f,o',m',g1,g2,g3⟩:=adn (B:=B) (W:=4*E^5) hW p0 S2 aa ⟨k,aa,aa,by rw[val k aa aa];exact q3,by
   rw[val k aa aa]
   grind⟩ (by
   calc 2*(2*(E*E))*(p0*p0)*p0<=2*(2*(E*E))*(E*E)*E:=Zr (Z1 _ (Zr p0E p0E)) p0E
    _=4*E^5:=by grind)
  exact ⟨f+1,o',m',by grind,g2.mono (by
   have:2*(4*E^5)*(4*E^5)=32*E^10:=by grind
   omega),.inl g3⟩
def dgN:Nat->Nat->Nat
 |0,d=>d
 |t+1,d=>dgN t (10*d+2)
theorem XY:∀t d,d<=dgN t d
 |0,d=>Z8 _
 |t+1,d=>by have:=XY t (10*d+2);grind[dgN]
theorem Q4{n B:Nat}:∀(r:Nat){c o d:Nat}{L:Nat->Nat}{m:Mz},Hm n c o L m->BdE (10^d) m->dgN (m.length-o) d<=B->∃f0,∀f,f0<=f->∃o' m',clZ B f r c o m=some (o',m')
 |0,c,o,d,L,m,H,hb,hd=>⟨0,λf _=>⟨o,m,rfl⟩⟩
 | r+1,c,o,d,L,m,H,hb,hd=>by
  by_cases ho:o<m.length
  .have e1:1<=10^d:=Nat.one_le_pow _ _ aa;obtain⟨t,ht⟩:∃t,m.length-o=t+1:=⟨m.length-o-1,aa⟩;rw[ht]at hd;have hd2:dgN t (10*d+2)<=B:=hd;have:=XY t (10*d+2)
   have hW:4*(10^d)^5<10^B:=by
    rw[<-Nat.pow_mul];have h1:10^(d*5+1)<=10^B:=Z0 aa aa;have h2:10^(d*5+1)=10^(d*5)*10:=Nat.pow_succ ..;have h3:1<=10^(d*5):=Nat.one_le_pow _ _ aa;omega
   obtain⟨f1,o1,m1,g1,g2,g3⟩:=ado (c:=c) H.ln ho e1 hb hW;obtain⟨⟨L1,H1⟩,s1,l1⟩:=FM f1 H ho g1
   have hb1:BdE (10^(10*d+2)) m1:=g2.mono (by
    rw[<-Nat.pow_mul,Zo d 10,X9];omega)
   have hd1:∃d1,BdE (10^d1) m1∧dgN (m1.length-o1) d1<=B:=by
    rcases g3 with h|⟨h1,h2⟩
    .exact⟨_,hb1,by rw[l1,h,show m.length-(o+1)=t by omega];omega⟩
    .grind
   obtain⟨d1,b1,k1⟩:=hd1;obtain⟨f2,hf2⟩:=Q4 r H1 b1 k1;refine⟨max f1 f2,λf hf=>?_⟩;obtain⟨o',m',h⟩:=hf2 f aa;refine⟨o',m',?_⟩
   show pC [] (λr=>r) (λ_ r=>r) B f (r+1) c o m=some (o',m')
   have hr:nD [] (λr=>r) (λ_ r=>r) B c f o m=some (o1,m1):=Jb f1 f g1 aa;simp only[pC,if_pos ho,hr];exact h
  .refine⟨0,λf _=>⟨o,m,?_⟩⟩
   show pC [] (λr=>r) (λ_ r=>r) B f (r+1) c o m=some (o,m)
   grind[pC]
theorem BR(cols:Nat)(hl:Ln n m)(hm:m.length<=4)(hb:BdE (10^9) m):∃f0,∀f,f0<=f->∃o m',rG 100000 f cols m=some (o,m'):=by have H:Hm n 0 0 (λ_=>0) m:=⟨aa,hl,λi hi=>by omega,λi j h1 h2=>by omega,λi hi=>by omega,λi hi=>by omega,λi j h1 h2=>by omega,λk a b j hj=>by omega⟩;refine Q4 (B:=100000) cols H hb ?_;have:m.length-0=0∨m.length-0=1∨m.length-0=2∨m.length-0=3∨m.length-0=4:=aa;rcases this with h|h|h|h|h<;>rw[h]<;>decide
theorem abf(H:Hm n n m.length L m)(H':Hm n n m'.length L' m')(e:SpE m m'):m=m':=by
 have h:=Mx (tQ H m.length 0 0 aa (λ_=>Y8 _)) (tQ H' m'.length 0 0 aa (λ_=>Y8 _)) (λv=>by
  rw[qF H (Z8 _),qF H' (Z8 _)];exact e v)
 have eo:m.length=m'.length:=by
  have:=congrArg List.length h
  rwa [xy,xy]at this
 refine Ws eo λi h1 h2=>?_
 rw[<-eo]at h;have e1:m[i]=nth [] m i:=by rw[nth,Z6,List.getElem?_eq_getElem h1];rfl
 have e2:m'[i]=nth [] m' i:=by rw[nth,Z6,List.getElem?_eq_getElem h2];rfl
 rw[e1,e2];refine ac4 ?_ (Qs h i aa aa);rw[H.ln i h1,H'.ln i h2]
theorem adC{α:Type}(d:α)(l:List α)(h:i<o):nth d (l.take o) i=nth d l i:=by grind[nth]
theorem Af(H:Hm n n o L m):(m.take o).length=o∧Hm n n o L (m.take o)∧SpE m (m.take o):=by
 have hl:(m.take o).length=o:=by rw[Zs];have:=H.le;omega
 have e:∀i,i<o->nth [] (m.take o) i=nth [] m i:=λi hi=>adC [] m hi
 have H2:Hm n n o L (m.take o):=
  ⟨aa,λi hi=>by rw[e i aa];exact H.ln i (by grind),H.lt,H.inc,λi hi=>by simp only[eZ,e i hi];exact H.pos i hi,λi hi j hj=>by grind[Hm.low],
   λi j h1 h2=>by simp only[eZ,e i aa,e j h2];exact H.red i j h1 h2,λk a b=>by omega⟩
 refine⟨hl,H2,λv=>?_⟩;have k1:=qF H (Z8 _) v;have k2:=qF H2 (Z8 _) v
 have k3:∀r i,i+r<=o->ldZ L (m.take o) r i=ldZ L m r i:=by
  intro r
  induction r with
  |zero=>intro i _;rfl
  |succ r ih=>intro i hi;simp only[ldZ,e i aa,ih (i+1) aa]
 grind
theorem Jl(l:LiQ)(k j:Nat):nth 0 (l.drop k) j=nth 0 l (k+j):=by simp[nth]
theorem Ki(k:Nat)(r:LiQ):Ca k r=true↔(∃j,nth 0 r j≠0)∧∀j,j<k->nth 0 r j=0:=by
 unfold Ca;cases h:r.findIdx? λz=>decide (z≠0)with
 | none=>
  simp only[Zd,false_iff];rintro⟨⟨j,hj⟩,_⟩;rw[List.findIdx?_eq_none_iff]at h;by_cases hl:j<r.length
  .grind[Yx,nth.eq_1]
  .rw[nth,Z6,List.getElem?_eq_none aa]at hj;trivial
 | some i=>
  rw[List.findIdx?_eq_some_iff_getElem]at h;obtain⟨hi,h1,h2⟩:=h;simp only[decide_eq_true_eq]at h1 h2 ⊢;have g1:nth 0 r i=r[i]:=by rw[nth,Z6,List.getElem?_eq_getElem hi];rfl
  constructor
  .intro hk;refine⟨⟨i,aa⟩,λj hj=>?_⟩;have hjl:j<r.length:=aa;have:=h2 j aa
   grind[nth.eq_1]
  .rintro⟨_,h3⟩;exact Decidable.byContradiction λhn=>h1 (by rw[<-g1];exact h3 i aa)
theorem Krn.add{S:Ve->Prop}(hu:Krn n S u)(hv:Krn n S v):Krn n S λi=>u i+v i:=
 ⟨λw hw=>by rw[xD,hu.1 w hw,hv.1 w hw];rfl,λj hj=>by show u j+v j=0;rw[hu.2 j hj,hv.2 j hj];rfl⟩
theorem Krn.mul{S:Ve->Prop}(k:Int)(hu:Krn n S u):Krn n S λi=>k*u i:=
 ⟨λw hw=>by rw[vq,hu.1 w hw,Int.mul_zero],λj hj=>by show k*u j=0;rw[hu.2 j hj,Int.mul_zero]⟩
theorem Krn.zero(n:Nat)(S:Ve->Prop):Krn n S λ_=>0:=⟨λw hw=>qS w n,λ_ _=>rfl⟩
theorem Krn.spn{S:Ve->Prop}:∀{l:List Ve},(∀g∈l,Krn n S g)->∀{v},Spn l v->Krn n S v:=λ{l} hl {v} hv=>by
 obtain⟨ks,rfl⟩:=hv
 induction l generalizing ks with
 |nil=>cases ks<;>exact Krn.zero n S
 | cons g l ih=>
  cases ks with
  |nil=>exact Krn.zero n S
  |cons k ks=>exact((hl g ac).mul k).add (ih (λx hx=>hl x (by grind)) ks)
theorem Hy(k:Nat):∀{l:List Ve}{v:Ve},Spn l v->Spn (l.map λg j=>g (k+j)) λj=>v (k+j):=λ{l v} hv=>by
 obtain⟨ks,rfl⟩:=hv;refine⟨ks,?_⟩
 induction l generalizing ks with
 |nil=>cases ks<;>rfl
 | cons g l ih=>
  cases ks with
  |nil=>rfl
  | cons k' ks=>
   grind[cmb]
def wn(k:Nat)(m:Mz):Mz:=(m.filter (Ca k)).map (List.drop k)
theorem Ra(h:Ln (k+n) m):Ln n (wn k m):=by
 have:∀r∈wn k m,r.length=n:=λr hr=>by
  obtain⟨x,hx,rfl⟩:=Zx.1 hr;obtain⟨i,hi,rfl⟩:=Zi.1 (Xx.1 hx).1;have:=h i hi
  grind[nth.eq_1]
 intro i hi
 grind[nth.eq_1]
theorem IG(n:Nat)(m:Mz):Ln (m.length+n) (lI n m):=λi hi=>by
 grind[tY,Kw]
theorem ZD{w:Mz}(H:Hm (m.length+n) (m.length+n) o L w)(e:SpE (lI n m) w)(v:Ve):SpZ (wn m.length (w.take o)) v↔Krn n (SpZ m) v:=by
 obtain⟨tl,H2,e2⟩:=Af H;have sp:∀u,SpZ (w.take o) u↔Wid n m u:=λu=>(((e.trans e2) u).symm).trans (He u)
 constructor
 .refine λh=>Krn.spn (λg hg=>?_) h
  obtain⟨r,hr,rfl⟩:=Zx.1 hg;obtain⟨x,hx,rfl⟩:=Zx.1 hr;obtain⟨hx,hb⟩:=Xx.1 hx;have hb:=((Ki _ _).1 hb).2;have hw:=(sp (ve x)).1 (Spn.mem (Zx.2 ⟨x,hx,rfl⟩));have ev:ve (x.drop m.length)=λc=>ve x (m.length+c):=funext λj=>Jl x m.length j
  rw[ev];refine⟨λu hu=>?_,λj hj=>hw.2 _ aa⟩;refine Ay (λg hg=>?_) hu;obtain⟨r,hr,rfl⟩:=Zx.1 hg;obtain⟨i,hi,rfl⟩:=Zi.1 hr;have e1:m[i]=nth [] m i:=by rw[nth,Z6,List.getElem?_eq_getElem hi];rfl
  rw[e1,<-hw.1 i hi];exact hb i hi
 .intro h
  let u:Ve:=λj=>if j<m.length then 0 else v (j-m.length)
  have hsh:(λj=>u (m.length+j))=v:=funext λj=>by
   grind
  have hw:Wid n m u:=by
   refine⟨λi hi=>?_,λj hj=>?_⟩
   .rw[hsh,h.1 _ (ic hi)]
    grind
   .show(if j<m.length then 0 else v (j-m.length))=0
    rw[if_neg aa];exact h.2 _ aa
  have h1:=(sp u).2 hw;rw[<-qF H2 (Z8 _)]at h1;have h2:=yR (tQ H2 o 0 0 aa (λ_=>Y8 _)) m.length h1 (λj hj=>if_pos hj);have h3:=Hy m.length h2;rw[hsh]at h3;refine Spn.le (λg hg=>?_) h3;obtain⟨g',hg',rfl⟩:=Zx.1 hg;obtain⟨x,hx,rfl⟩:=Zx.1 hg';obtain⟨hx,hk⟩:=Xx.1 hx;obtain⟨i,_,hi,rfl⟩:=u5 hx
  have hk:m.length<=L i:=by simpa using hk
  have hi':i<(w.take o).length:=aa;refine Spn.mem (Zx.2 ⟨(nth [] (w.take o) i).drop m.length,?_,funext λj=>Jl _ _ _⟩);refine Zx.2 ⟨_,Xx.2 ⟨?_,(Ki _ _).2 ⟨⟨L i,?_⟩,λj hj=>H2.low i aa j aa⟩⟩,rfl⟩
  .grind[nth.eq_1]
  .have:=H2.pos i aa
   grind
theorem adP(n:Nat):Hm n n 0 (λ_=>0) []:=
 have z:∀{i:Nat}{P:Prop},i<0->P:=λh=>absurd h (Nat.not_lt_zero _)
 ⟨Z8 _,λi hi=>z hi,λi hi=>z hi,λi j _ hj=>z hj,λi hi=>z hi,λi hi=>z hi,λi j _ hj=>z hj,λk _ hk=>z hk⟩
theorem If{B:Nat}{w:Mz}(hl:Ln n m)(h:rG B f n m=some (o,w)):(∃L,Hm n n (w.take o).length L (w.take o))∧SpE m (w.take o):=by
 obtain⟨⟨L,H⟩,e,_⟩:=DT hl h;obtain⟨tl,H2,e2⟩:=Af H
 grind[SpE.trans]
theorem zX{B:Nat}(h:vg B f n m=some z):(∃L,Hm n n z.length L z)∧∀v,SpZ z v↔Krn n (SpZ m) v:=by
 unfold vg at h;split at h
 .rename_i o w hw;obtain⟨⟨L,H⟩,e,_⟩:=DT (IG n m) hw;have bs:=ZD H e;have ln:=Ra (Af H).2.1.ln
  have hb:ZE B f m.length n (w.take o)=if wn m.length (w.take o)=[]then some []else match rG B f n (wn m.length (w.take o))with
   |some (o,w)=>some (w.take o)
   |none=>none:=rfl
  rw[hb]at h;split at h
  .rename_i h0;cases h;rw[h0]at bs;exact⟨⟨λ_=>0,adP n⟩,bs⟩
  .split at h
   .rename_i o2 w2 hf;cases h;obtain⟨H3,e3⟩:=If ln hf;exact⟨H3,λv=>((e3 v).symm).trans (bs v)⟩
   .cases h
 .cases h
def dU:LnQ->Ve->Ve->Int
 |[],_,_=>0
 |i::us,e,x=>e i*x i+dU us e x
theorem OI(a b:Int)(e f x:Ve):∀us,dU us (λi=>a*e i-b*f i) x=a*dU us e x-b*dU us f x
 |[]=>by simp[dU]
 |i::us=>by simp only[dU,OI a b e f x us];grind
theorem YC(a:Int)(e x:Ve):∀us,dU us e (λi=>a*x i)=a*dU us e x
 |[]=>by simp[dU]
 |i::us=>by simp only[dU,YC a e x us];grind
theorem Gf{e x y:Ve}:∀{us},(∀i∈us,x i=y i)->dU us e x=dU us e y
 |[],_=>rfl
 |i::us,h=>by simp only[dU,h i ac,Gf (us:=us) λj hj=>h j (by grind)]
theorem AD{e x:Ve}:∀{us},(∀i∈us,e i*x i=0)->dU us e x=0
 |[],_=>rfl
 |i::us,h=>by simp only[dU,h i ac,AD (us:=us) λj hj=>h j (by grind)];rfl
theorem acH{e x:Ve}:∀{us},dU us e x≠0->∃i∈us,e i*x i≠0
 |[],h=>absurd rfl h
 | i::us,h=>by
  by_cases h1:e i*x i=0
  .simp only[dU,h1,Int.zero_add]at h;obtain⟨j,hj,h2⟩:=acH h
   grind
  .exact⟨i,ac,h1⟩
theorem qV{e x:Ve}{j:Nat}:∀{us:LnQ},j∈us->dU us e x=e j*x j+dU (us.erase j) e x
 | i::us,h=>by
  by_cases hi:i=j
  .subst hi;rw[List.erase_cons_head];rfl
  ·have hj:j∈us:=by
    rcases Zw.1 h with h|h
    .omega
    .exact h
   rw[List.erase_cons_tail (by grind)];simp only[dU,qV hj];omega
theorem YD{e x:Ve}{A S:Nat}:∀{us:LnQ},(∀i∈us,(e i).natAbs<=A)->(∀i∈us,(x i).natAbs<=S)->(dU us e x).natAbs<=us.length*(A*S)
 |[],_,_=>by simp[dU]
 | i::us,h1,h2=>by
  have ih:=YD (us:=us) (λj hj=>h1 j (by grind)) (λj hj=>h2 j (by grind));have a1:=Xe (e i*x i) (dU us e x);rw[Zf]at a1;have a2:=Zr (h1 i ac) (h2 i ac)
  grind[dU,Nat.add_mul]
def slB:Nat->Nat->Nat
 |0,_=>0
 |1,_=>1
 |u+2,A=>(u+1)*A*slB (u+1) (2*A*A)
theorem Pw:∀(u:Nat){A:Nat},1<=A->1<=slB (u+1) A
 |0,A,h=>by simp[slB]
 | u+1,A,h=>by
  have h2:1*1<=A*A:=Zr h h;have h1:=Pw u (A:=2*A*A) (by grind);have h3:1*1*1<=(u+1)*A*slB (u+1) (2*A*A):=Zr (Zr aa h) h1;trivial
theorem slv:∀(k:Nat)(us:LnQ),us.length=k->us.Nodup->∀(A:Nat),1<=A->∀(es:List Ve)(l x:Ve),(∀e∈es,∀i∈us,(e i).natAbs<=A)->(∀e∈es,dU us e x=0)->dU us l x≠0 ->
  ∃y:Ve,(∀e∈es,dU us e y=0)∧dU us l y≠0∧(∀i,(y i).natAbs<=slB us.length A)∧∀i,i ∉ us->y i=0
 | 0,us,hk,hn,A,hA,es,l,x,hb,h0,hl=>by
  rw[Yh.1 hk]at hl;trivial
 | k+1,us,hk,hn,A,hA,es,l,x,hb,h0,hl=>by
  by_cases all:∀e∈es,∀i∈us,e i=0
  .obtain⟨i,hi,h1⟩:=acH hl
   refine ⟨λt=>if t=i then 1 else 0,λe he=>AD λt ht=>by rw[all e he t ht,Int.zero_mul],?_,λt=>?_,λt ht=>by
    grind⟩
   .rw[qV hi,AD (us:=us.erase i)]
    .rw[if_pos rfl,Int.mul_one,Int.add_zero];exact λh=>h1 (by rw[h,Int.zero_mul])
    grind
   grind[Pw]
  ·obtain ⟨e1,he1,j,hj,ha⟩:∃e1,e1∈es∧∃j,j∈us∧e1 j≠0:=by
    grind
   have hk2:(us.erase j).length=k:=by rw[List.length_erase_of_mem hj];omega
   have hn2:(us.erase j).Nodup:=hn.erase j;have hsub:∀i∈us.erase j,i∈us∧i≠j:=λi hi=>⟨(hn.mem_erase_iff.1 hi).2,(hn.mem_erase_iff.1 hi).1⟩
   have hA2:1*1<=A*A:=Zr hA hA
   have hred:∀e:Ve,dU (us.erase j) (λi=>e1 j*e i-e j*e1 i) x=e1 j*dU us e x-e j*dU us e1 x:=λe=>by
    rw[OI,qV (e:=e) hj,qV (e:=e1) hj]
    grind
   obtain ⟨y,y1,y2,y3,y4⟩:=slv k (us.erase j) hk2 hn2 (2*A*A) (by grind) (es.map λe i=>e1 j*e i-e j*e1 i) (λi=>e1 j*l i-l j*e1 i) x (λe' he' i hi=>by
     obtain⟨e,he,rfl⟩:=Zx.1 he';obtain⟨hi,_⟩:=hsub i hi
     show(e1 j*e i-e j*e1 i).natAbs<=_
     have b1:=Int.natAbs_sub_le (e1 j*e i) (e j*e1 i);rw[Zf,Zf]at b1;have b2:=Zr (hb e1 he1 j hj) (hb e he i hi);have b3:=Zr (hb e he j hj) (hb e1 he1 i hi)
     grind) (λe' he'=>by
     grind) (by
     simp_all)
   have hjn:j ∉ us.erase j:=λh=>(hsub j h).2 rfl
   have hval:∀e:Ve,dU us e (λt=>if t=j then -dU (us.erase j) e1 y else e1 j*y t)=dU (us.erase j) (λi=>e1 j*e i-e j*e1 i) y:=λe=>by
    rw[qV hj,if_pos rfl,OI,Gf (y:=λt=>e1 j*y t) (λt ht=>if_neg (hsub t ht).2),YC]
    grind
   refine⟨_,λe he=>(hval e).trans (y1 _ (Zx.2 ⟨e,he,rfl⟩)),by grind,λt=>?_,λt ht=>?_⟩
   .cases k with
    | zero=>
     rw[Yh.1 hk2]at y2;trivial
    | succ u=>
     rw[hk]
     show(if t=j then -dU (us.erase j) e1 y else e1 j*y t).natAbs<=(u+1)*A*slB (u+1) (2*A*A)
     rw[hk2]at y3;split
     .rw[X0,Nat.mul_assoc];have:=YD (us:=us.erase j) (e:=e1) (x:=y) (λi hi=>hb e1 he1 i (hsub i hi).1) (λi _=>y3 i)
      grind
     .rw[Zf,Nat.mul_assoc];have b1:=Zr (hb e1 he1 j hj) (y3 t)
      grind
   grind
theorem Eu{m:List (Nat×Ve)}(h:Spn (vs m) v):Spn (vs (x::m)) v:=
 Spn.le (λg hg=>Spn.mem (by grind[vs])) h
theorem JM:∀{m:List (Nat×Ve)}{o:Nat},Hnf o m->∀(u:Ve),∃(D:Int)(s:Ve),D≠0∧Spn (vs m) s∧∀y∈m,D*u y.1-s y.1=0
 |[],o,H,u=>⟨1,λ_=>0,aa,Spn.zero _,λy hy=>by cases hy⟩
 | (l,h)::m,o,⟨⟨a,b,c⟩,d,r⟩,u=>by
  obtain⟨D,s,h1,h2,h3⟩:=JM r (λi=>h l*u i-u l*h i);refine⟨D*h l,λi=>D*u l*h i+s i,Yr h1 aa,((Spn.mem (by simp[vs])).mul _).add (Eu h2),λy hy=>?_⟩;rcases Zw.1 hy with rfl|hy
  .have:s l=0:=rS r h2 l aa
   grind
  grind
theorem Ae:∀{m:List (Nat×Ve)}{o:Nat},Hnf o m->∀x∈m,∃v,Spn (vs m) v∧v x.1≠0∧(∀j,j<x.1->v j=0)∧∀y∈m,y.1≠x.1->v y.1=0
 | (l,h)::m,o,H,x,hx=>by
  have H':=H;obtain⟨⟨a,b,c⟩,d,r⟩:=H';rcases Zw.1 hx with rfl|hx
  .obtain⟨D,s,h1,h2,h3⟩:=JM r h;have z:∀j,j<=l->s j=0:=λj hj=>rS r h2 j aa
   refine⟨λi=>D*h i-s i,((Spn.mem (by simp[vs])).mul D).sub (Eu h2),?_,λj hj=>?_,λy hy hne=>?_⟩
   .show D*h l-s l≠0
    rw[z l (Z8 _),Int.sub_zero];exact Yr h1 aa
   .show D*h j-s j=0
    have hj:j<l:=hj;rw[z j aa,c j hj];simp
   grind
  .obtain⟨v,v1,v2,v3,v4⟩:=Ae r x hx;have:=yQ r x hx;refine⟨v,Eu v1,v2,v3,λy hy hne=>?_⟩;rcases Zw.1 hy with rfl|hy
   .exact v3 l aa
   grind
theorem Qy:∀{m:List (Nat×Ve)}{o:Nat},Hnf o m->∀x∈m,∀z∈m,(x.2 z.1).natAbs<=(z.2 z.1).natAbs
 | (l,h)::m,o,⟨⟨a,b,c⟩,d,r⟩,x,hx,z,hz=>by
  rcases Zw.1 hx with rfl|hx
  .rcases Zw.1 hz with rfl|hz
   .omega
   grind
  .rcases Zw.1 hz with rfl|hz
   .have:x.2 l=0:=rS r (Spn.mem (Zx.2 ⟨x,hx,rfl⟩)) l aa
    grind
   .exact Qy r x hx z hz
theorem YS{m:List (Nat×Ve)}{o S:Nat}(H:Hnf o m)(w:Nat->Ve)(hw:∀x∈m,Spn (vs m) (w x.1)∧w x.1 x.1≠0∧(∀y∈m,y.1≠x.1->w x.1 y.1=0)∧∀j,(w x.1 j).natAbs<=S) :
  ∀(J:List (Nat×Ve)),(∀x∈J,x∈m)->∀(c:Nat)(u:Ve),Spn (vs m) u->(∀y∈m,y ∉ J->u y.1=0)->(∀y∈J,(u y.1).natAbs<=c*(w y.1 y.1).natAbs)->∀j,(u j).natAbs<=c*(J.length*S)
 | [],_,c,u,hu,hz,_,j=>by
  rcases qR H hu with h|⟨x,hx,_,h,_⟩
  .grind
  .exact absurd (hz x hx ac) h
 | x::J,hJ,c,u,hu,hz,hb,j=>by
  obtain⟨w1,w2,w3,w4⟩:=hw x (hJ x ac)
  have ih:=YS H w hw J (λy hy=>hJ y (by grind)) (c*(w x.1 x.1).natAbs) (λi=>w x.1 x.1*u i-u x.1*w x.1 i) ((hu.mul _).sub (w1.mul _)) (λy hy hn=>by
   by_cases e:y.1=x.1
   .grind
   .show w x.1 x.1*u y.1-u x.1*w x.1 y.1=0
    rw [w3 y hy e,hz y hy (λh=>by
     rcases Zw.1 h with h|h
     .exact e (by rw[h])
     trivial)]
    simp) (λy hy=>by
   show(w x.1 x.1*u y.1-u x.1*w x.1 y.1).natAbs<=_
   by_cases e:y.1=x.1
   .rw[e,show w x.1 x.1*u x.1-u x.1*w x.1 x.1=0 by grind];simp
   .rw[w3 y (hJ y (by grind)) e,Int.mul_zero,Int.sub_zero,Zf];have:=Z1 (w x.1 x.1).natAbs (hb y (by grind))
    grind) j
  have h1:((w x.1 x.1)*u j).natAbs<=(w x.1 x.1*u j-u x.1*w x.1 j).natAbs+(u x.1*w x.1 j).natAbs:=by
   have:=Xe (w x.1 x.1*u j-u x.1*w x.1 j) (u x.1*w x.1 j)
   rwa [Int.sub_add_cancel]at this
  rw[Zf,Zf (u x.1)]at h1;have h2:=Zr (hb x ac) (w4 j)
  have h3:(w x.1 x.1).natAbs*(u j).natAbs<=(w x.1 x.1).natAbs*(c*((x::J).length*S)):=by
   calc (w x.1 x.1).natAbs*(u j).natAbs<=c*(w x.1 x.1).natAbs*(J.length*S)+c*(w x.1 x.1).natAbs*S:=Zy h1 (Nat.add_le_add ih h2)
    _=(w x.1 x.1).natAbs*(c*((x::J).length*S)):=by grind
  exact Nat.le_of_mul_le_mul_left h3 (Int.natAbs_pos.2 w2)
theorem YT{m:List (Nat×Ve)}{S:Nat}(H:Hnf o m)(hw:∀x∈m,∃v,Spn (vs m) v∧v x.1≠0∧(∀y∈m,y.1≠x.1->v y.1=0)∧∀j,(v j).natAbs<=S):∀x∈m,∀j,(x.2 j).natAbs<=m.length*S:=by
 intro x hx j
 let P:Nat->Ve->Prop:=λl v=>Spn (vs m) v∧v l≠0∧(∀y∈m,y.1≠l->v y.1=0)∧∀j,(v j).natAbs<=S
 let w:Nat->Ve:=λl=>Classical.epsilon (P l)
 have hP:∀y∈m,P y.1 (w y.1):=λy hy=>Classical.epsilon_spec (hw y hy)
 have:=YS H w hP m (λy hy=>hy) 1 x.2 (Spn.mem (Zx.2 ⟨x,hx,rfl⟩)) (λy hy hn=>absurd hy hn) (λy hy=>by
  obtain⟨p1,p2,p3,p4⟩:=hP y hy;rcases qR H p1 with h|⟨z,hz,z1,z2,z3⟩
  .grind
  .have e:z.1=y.1:=Classical.byContradiction λhn=>z2 (p3 z hz hn)
   have h1:=Qy H x hx z hz;rw[<-e,Ww];refine Zy h1 ?_;rw[<-e]at z2 z3;exact We aa (Int.natAbs_dvd_natAbs.2 z3)) j
 omega
theorem YE(e x:Ve):∀us ws,dU (us++ws) e x=dU us e x+dU ws e x
 |[],ws=>by simp[dU]
 |i::us,ws=>by simp only[List.cons_append,dU,YE e x us ws];omega
theorem oj(e x:Ve):∀n,dtV n e x=dU (List.range n) e x
 |0=>rfl
 |n+1=>by rw[Wm,YE,<-oj e x n];simp[dU,dtV]
theorem ers:∀(os us:LnQ),us.Nodup->os.Nodup->(∀c∈os,c∈us)->(os.foldl List.erase us).Nodup∧(os.foldl List.erase us).length+os.length=us.length∧∀c,c∈os.foldl List.erase us↔c∈us∧c ∉ os
 |[],us,h1,h2,h3=>⟨h1,rfl,λc=>by simp⟩
 | a::os,us,h1,h2,h3=>by
  rw[List.nodup_cons]at h2;obtain⟨i1,i2,i3⟩:=ers os (us.erase a) (h1.erase a) h2.2 (λc hc=>h1.mem_erase_iff.2 ⟨λe=>h2.1 (e▸hc),h3 c (by grind)⟩)
  grind
theorem OJ{e x:Ve}:∀{os us:LnQ},us.Nodup->os.Nodup->(∀c∈os,c∈us)->(∀c∈os,x c=0)->dU (os.foldl List.erase us) e x=dU us e x
 |[],us,_,_,_,_=>rfl
 | a::os,us,h1,h2,h3,h4=>by
  rw[List.nodup_cons]at h2;have ha:=h3 a ac;simp only[List.foldl_cons];rw[OJ (h1.erase a) h2.2 (λc hc=>h1.mem_erase_iff.2 ⟨λe=>h2.1 (e▸hc),h3 c (by grind)⟩) (λc hc=>h4 c (by grind)),qV (us:=us) ha,h4 a ac];simp
theorem QY{x:Ve}{us:LnQ}(hj:j∈us)(hn:us.Nodup):dU us (λc=>if c=j then 1 else 0) x=x j:=by
 rw[qV hj,AD (us:=us.erase j)]
 .simp
 grind
def leads(m:List (Nat×Ve)):LnQ:=m.map (·.1)
theorem wX:∀{m:List (Nat×Ve)}{o:Nat},Hnf o m->(leads m).Nodup
 |[],_,_=>List.nodup_nil
 | (l,h)::m,o,H=>by
  refine List.nodup_cons.2 ⟨λhl=>?_,wX H.2.2⟩;obtain⟨x,hx,e⟩:=Zx.1 hl;have:=yQ H.2.2 x hx
  grind
theorem Vn{m:List (Nat×Ve)}(H:Hnf o m)(hn:∀x∈m,x.1<n)(hx:x∈m):∃os:LnQ,os.Nodup∧os.length+1=m.length∧(∀c∈os,c<n)∧(∀c,c∈os↔(∃y∈m,y.1=c)∧c≠x.1):=by
 have hd:=wX H;have hm:x.1∈leads m:=Zx.2 ⟨x,hx,rfl⟩;refine⟨(leads m).erase x.1,hd.erase _,?_,λc hc=>?_,λc=>?_⟩
 .grind[leads]
 .obtain⟨y,hy,rfl⟩:=Zx.1 (hd.mem_erase_iff.1 hc).2
  grind
 grind[leads]
theorem xx{m:List (Nat×Ve)}(H:Hnf o m)(hn:∀x∈m,x.1<n):m.length<=n:=by
 obtain ⟨_,h,_⟩:=ers (leads m) (List.range n) Xa (wX H) (λc hc=>by
  obtain⟨x,hx,rfl⟩:=Zx.1 hc
  grind)
 grind[leads]
theorem Tu(hl:Ln n m)(hj:n<=j):eZ m i j=0:=by
 by_cases hi:i<m.length
 .have:=hl i hi;rw[eZ,nth,Z6,List.getElem?_eq_none aa];rfl
 .rw[eZ,show nth [] m i=[] by rw[nth,Z6,List.getElem?_eq_none aa];rfl];rfl
theorem adM(h:∀i,i<m.length->dtV n (ve (nth [] m i)) v=0)(h0:∀j,n<=j->v j=0):Krn n (SpZ m) v:=by
 refine⟨λu hu=>Ay (λg hg=>?_) hu,h0⟩;obtain⟨r,hr,rfl⟩:=Zx.1 hg;obtain⟨i,hi,rfl⟩:=Zi.1 hr;have e1:m[i]=nth [] m i:=by rw[nth,Z6,List.getElem?_eq_getElem hi];rfl
 grind
theorem Wc(H:Hnf o C)(hs:∀v,Spn (vs C) v↔Krn n (SpZ m) v)(hA:1<=A)(hb:BdE A m):∀x∈C,∀j,(x.2 j).natAbs<=C.length*slB (n+1-C.length) A:=by
 have hk:∀x∈C,Krn n (SpZ m) x.2:=λx hx=>(hs _).1 (Spn.mem (Zx.2 ⟨x,hx,rfl⟩))
 have hp:∀{C:List (Nat×Ve)}{o:Nat},Hnf o C->∀x∈C,0<x.2 x.1:=by
  intro C
  induction C with
  |nil=>simp
  | cons y C ih=>
   intro o H x hx;obtain⟨l,h⟩:=y;rcases Zw.1 hx with rfl|hx
   .exact H.1.2.1
   .exact ih H.2.2 x hx
 have hn:∀x∈C,x.1<n:=λx hx=>Decidable.byContradiction λh=>by
  have h1:=(hk x hx).2 x.1 aa
  grind
 refine YT H λx hx=>?_
 obtain⟨v,v1,v2,v3,v4⟩:=Ae H x hx;obtain⟨os,o1,o2,o3,o4⟩:=Vn H hn hx;have osr:∀c∈os,c∈List.range n:=λc hc=>Wx.2 (o3 c hc)
 obtain⟨u1,u2,u3⟩:=ers os (List.range n) Xa o1 osr;have hxu:x.1∈os.foldl List.erase (List.range n):=(u3 _).2 ⟨Wx.2 (hn x hx),λh=>((o4 _).1 h).2 rfl⟩
 have vz:∀c∈os,v c=0:=λc hc=>by
  grind
 obtain ⟨y,y1,y2,y3,y4⟩:=slv _ _ rfl u1 A hA (m.map ve) (λc=>if c=x.1 then 1 else 0) v (λe he i _=>by
  obtain⟨r,hr,rfl⟩:=Zx.1 he;obtain⟨k,hk,rfl⟩:=Zi.1 hr;have e1:m[k]=nth [] m k:=by rw[nth,Z6,List.getElem?_eq_getElem hk];rfl
  rw[e1];exact hb k i) (λe he=>by
  rw[OJ Xa o1 osr vz,<-oj];exact((hs v).1 v1).1 e (Spn.mem he)) (by grind[QY])
 rw[QY hxu u1]at y2;have yz:∀c∈os,y c=0:=λc hc=>y4 c λh=>((u3 c).1 h).2 hc
 refine⟨y,(hs y).2 (adM (λi hi=>?_) λj hj=>y4 j λh=>?_),y2,λz hz hne=>yz z.1 ((o4 _).2 ⟨⟨z,hz,rfl⟩,hne⟩),?_⟩
 .rw[oj,<-OJ Xa o1 osr yz]
  grind[nth.eq_1]
 .grind
 ·have e:(os.foldl List.erase (List.range n)).length=n+1-C.length:=by
   rw[List.length_range]at u2;omega
  grind
theorem K3(h:SpZ m v):∃X:Ve,∀c,v c=dtV m.length (λk=>eZ m k c) X:=by
 have key:∀(l:List Ve),(∀g∈l,∃X:Ve,∀c,g c=dtV m.length (λk=>eZ m k c) X)->∀ks,∃X:Ve,∀c,cmb ks l c=dtV m.length (λk=>eZ m k c) X:=by
  intro l
  induction l with
  |nil=>intro _ ks;exact⟨λ_=>0,λc=>by cases ks<;>exact(qS _ _).symm⟩
  | cons g l ih=>
   intro hg ks;cases ks with
   |nil=>exact⟨λ_=>0,λc=>(qS _ _).symm⟩
   | cons k ks=>
    obtain⟨X,hX⟩:=hg g ac;obtain⟨Y,hY⟩:=ih (λx hx=>hg x (by grind)) ks;refine⟨λi=>k*X i+Y i,λc=>?_⟩;rw[xD,vq,<-hX,<-hY];rfl
 obtain⟨ks,rfl⟩:=h;refine key _ (λg hg=>?_) ks;obtain⟨r,hr,rfl⟩:=Zx.1 hg;obtain⟨i,hi,rfl⟩:=Zi.1 hr;have e1:m[i]=nth [] m i:=by rw[nth,Z6,List.getElem?_eq_getElem hi];rfl
 refine⟨λj=>if j=i then 1 else 0,λc=>?_⟩;rw[Ax,if_pos hi,e1];rfl
theorem M3{m:Mz}(X:Ve):∀r,r<=m.length->SpZ m λc=>dtV r (λk=>eZ m k c) X
 |0,_=>Spn.zero _
 | r+1,hr=>by
  have h1:=(M3 (m:=m) X r aa).add ((ic (m:=m) (i:=r) aa).mul (X r))
  have e:(λc=>dtV r (λk=>eZ m k c) X+X r*ve (nth [] m r) c)=λc=>dtV (r+1) (λk=>eZ m k c) X:=funext λc=>by
   show _+X r*eZ m r c=_+eZ m r c*X r
   grind
  rwa [e]at h1
theorem Pr(H:Hnf o C)(h1:∀v,SpZ m v->Spn (vs C) v)(h2:∀v,Spn (vs C) v->∃D:Int,D≠0∧SpZ m λi=>D*v i)(hA:1<=A)(hb:BdE A m):
  ∀x∈C,∀j,(x.2 j).natAbs<=C.length*(m.length*(A*slB m.length A)):=by
 refine YT H λx hx=>?_
 obtain⟨v,v1,v2,v3,v4⟩:=Ae H x hx;obtain⟨D,d1,d2⟩:=h2 v v1;obtain⟨X,hX⟩:=K3 d2
 obtain ⟨os,o1,o2,o3,o4⟩:=Vn (n:=(C.map (·.1)).sum+1) H (λy hy=>by
  have:∀(l:LnQ) a,a∈l->a<=l.sum:=by
   intro l
   induction l with
   |nil=>trivial
   | cons b l ih=>
    grind
  have:=this _ _ (Zx.2 ⟨y,hy,rfl⟩:y.1∈C.map (·.1));omega) hx
 have dz:∀c,D*v c=dU (List.range m.length) (λk=>eZ m k c) X:=λc=>by grind[oj]
 obtain ⟨y,y1,y2,y3,y4⟩:=slv m.length (List.range m.length) List.length_range Xa A hA (os.map λc k=>eZ m k c) (λk=>eZ m k x.1) X (λe he i _=>by
  obtain⟨c,hc,rfl⟩:=Zx.1 he;exact hb i c) (λe he=>by
  obtain⟨c,hc,rfl⟩:=Zx.1 he;obtain⟨⟨z,hz,rfl⟩,hne⟩:=(o4 c).1 hc
  grind) (by grind[Yr])
 refine⟨λc=>dtV m.length (λk=>eZ m k c) y,h1 _ (M3 y m.length (Z8 _)),?_,λz hz hne=>?_,λj=>?_⟩
 .grind[oj]
 .grind[oj]
 .show(dtV m.length (λk=>eZ m k j) y).natAbs<=_
  rw[oj];rw[List.length_range]at y3;have:=YD (us:=List.range m.length) (e:=λk=>eZ m k j) (x:=y) (λi _=>hb i j) (λi _=>y3 i)
  grind
theorem WB{n f:Nat}:∀{C:List (Nat×Ve)}{o:Nat},Hnf o C->(∀x∈C,x.1<n)->f<n->(∀x∈C,x.1≠f)->∃k:Ve,k f≠0∧(∀x∈C,dtV n x.2 k=0)∧∀j,j≠f->(∀x∈C,x.1≠j)->k j=0
 |[],o,H,hn,hf,hne=>⟨λj=>if j=f then 1 else 0,ac,λx hx=>absurd hx Yo,λj hj _=>if_neg hj⟩
 | (l,h)::C,o,⟨⟨a,b,c⟩,d,r⟩,hn,hf,hne=>by
  obtain⟨k,k1,k2,k3⟩:=WB r (λx hx=>hn x (by grind)) hf (λx hx=>hne x (by grind));have hl:=hn (l,h) ac;have hlf:=hne (l,h) ac
  have dt:∀g:Ve,dtV n g (λj=>h l*k j + -(dtV n h k)*(if j=l then 1 else 0))=h l*dtV n g k-dtV n h k*g l:=λg=>by
   rw[xD,vq,vq,Ax,if_pos hl,Int.neg_mul];omega
  refine⟨λj=>h l*k j + -(dtV n h k)*(if j=l then 1 else 0),?_,λx hx=>?_,λj hj hx=>?_⟩
  .show h l*k f + -(dtV n h k)*(if f=l then 1 else 0)≠0
   rw[if_neg (λe=>hlf e.symm),Int.mul_zero,Int.add_zero];exact Yr aa k1
  .rw[dt];rcases Zw.1 hx with rfl|hx
   .grind
   .have:x.2 l=0:=rS r (Spn.mem (Zx.2 ⟨x,hx,rfl⟩)) l aa
    grind
  .show h l*k j + -(dtV n h k)*(if j=l then 1 else 0)=0
   rw[if_neg (λe=>hx (l,h) ac e.symm),k3 j hj (λy hy=>hx y (by grind))];simp
theorem Wb{S:Ve->Prop}(H:Hnf o C)(hn:∀x∈C,x.1<n)(hs:∀v,Spn (vs C) v↔S v)(hS:∀u,S u->∀j,n<=j->u j=0)(hu:Krn n (Krn n S) u):∃D:Int,D≠0∧S λi=>D*u i:=by
 obtain⟨D,s,h1,h2,h3⟩:=JM H u;have hsS:=(hs s).1 h2;have hsk:Krn n (Krn n S) s:=⟨λw hw=>by rw[qU];exact hw.1 s hsS,hS s hsS⟩;have hd:Krn n (Krn n S) λi=>D*u i + -1*s i:=(hu.mul D).add (hsk.mul (-1))
 have hz:∀f,D*u f + -1*s f=0:=λf=>by
  by_cases hf:f<n
  .by_cases hl:∃x∈C,x.1=f
   .grind
   .obtain⟨k,k1,k2,k3⟩:=WB H hn hf (λx hx e=>hl ⟨x,hx,e⟩)
    let k':Ve:=λj=>if j<n then k j else 0
    have dk:∀g:Ve,dtV n g k'=dtV n g k:=λg=>by
     grind[oj,Gf]
    have hk:Krn n S k':=⟨λw hw=>by
     grind[Ay,vs],λj hj=>if_neg aa⟩
    have h4:=hd.1 k' hk
    have hval:dtV n k' (λi=>D*u i + -1*s i)=k f*(D*u f + -1*s f):=by
     have hfr:f∈List.range n:=Wx.2 hf;rw[oj,qV hfr,AD (us:=(List.range n).erase f)]
     .grind
     .intro t ht;obtain⟨t1,t2⟩:=Xa.mem_erase_iff.1 ht;by_cases hx:∃x∈C,x.1=t
      .obtain⟨x,hx,rfl⟩:=hx;have:=h3 x hx;rw[show D*u x.1 + -1*s x.1=0 by omega,Int.mul_zero]
      grind
    grind[Int.mul_eq_zero]
  .have a1:=hu.2 f aa;have a2:=hS s hsS f aa
   grind
 refine⟨D,h1,?_⟩;have e:(λi=>D*u i)=s:=funext λi=>by grind
 grind
def dt4(u x:Ve):Int:=u 0*x 0+u 1*x 1+u 2*x 2+u 3*x 3
def v4(a b c d:Int):Ve:=λj=>if j=0 then a else if j=1 then b else if j=2 then c else if j=3 then d else 0
theorem ML(u:Ve)(a b c d:Int):dt4 u (v4 a b c d)=u 0*a+u 1*b+u 2*c+u 3*d:=rfl
def Sm4(a b c x:Ve):Prop:=(∃j,x j≠0)∧(∀j,4<=j->x j=0)∧(∀j,(x j).natAbs<=4374)∧dt4 a x=0∧dt4 b x=0∧dt4 c x=0
theorem Ee(a b c d:Int)(j:Nat)(h:4<=j):v4 a b c d j=0:=by unfold v4;rw[if_neg aa,if_neg aa,if_neg aa,if_neg aa]
theorem KN{a b c:Int}{S:Nat}(ha:a.natAbs<=S)(hb:b.natAbs<=S)(hc:c.natAbs<=S)(hd:d.natAbs<=S)(j:Nat):(v4 a b c d j).natAbs<=S:=by
 unfold v4
 repeat' split
 all_goals first|assumption|simp
theorem KM{a b c:Int}(h:a≠0∨b≠0∨c≠0∨d≠0):∃j,v4 a b c d j≠0:=by
 rcases h with h|h|h|h
 .exact⟨0,h⟩
 .exact⟨1,h⟩
 .exact⟨2,h⟩
 .exact⟨3,h⟩
def dt2(a b c d:Int):Int:=a*d-b*c
def dt3(a b c:Ve)(i j k:Nat):Int:=a i*dt2 (b j) (b k) (c j) (c k)-a j*dt2 (b i) (b k) (c i) (c k)+a k*dt2 (b i) (b j) (c i) (c j)
theorem Fl{a b:Int}{B:Nat}(ha:a.natAbs<=A)(hb:b.natAbs<=B):(a*b).natAbs<=A*B:=by rw[Zf];exact Zr ha hb
theorem JY{a b c:Int}(ha:a.natAbs<=9)(hb:b.natAbs<=9)(hc:c.natAbs<=9)(hd:d.natAbs<=9):(dt2 a b c d).natAbs<=162:=by have h1:=Fl ha hd;have h2:=Fl hb hc;unfold dt2;omega
theorem ad8{a b c:Ve}(ha:∀j,(a j).natAbs<=9)(hb:∀j,(b j).natAbs<=9)(hc:∀j,(c j).natAbs<=9)(i j k:Nat):(dt3 a b c i j k).natAbs<=4374:=by have h1:=Fl (ha i) (JY (hb j) (hb k) (hc j) (hc k));have h2:=Fl (ha j) (JY (hb i) (hb k) (hc i) (hc k));have h3:=Fl (ha k) (JY (hb i) (hb j) (hc i) (hc j));unfold dt3;omega
theorem IU{a b c:Ve}(ha:∀j,(a j).natAbs<=9)(hb:∀j,(b j).natAbs<=9)
  (d1:dt3 c a b 0 1 2=0) (d2:dt3 c a b 0 1 3=0) (d3:dt3 c a b 0 2 3=0) (d4:dt3 c a b 1 2 3=0)
  (h:∃i j,i<4∧j<4∧dt2 (a i) (a j) (b i) (b j)≠0):∃x,Sm4 a b c x:=by
 have bd:∀i j,(dt2 (a i) (a j) (b i) (b j)).natAbs<=4374:=λi j=>Zy (JY (ha _) (ha _) (hb _) (hb _)) af
 have bn:∀i j,(- dt2 (a i) (a j) (b i) (b j)).natAbs<=4374:=λi j=>by rw[X0];exact bd i j
 have z:(0:Int).natAbs<=4374:=af;by_cases h1:dt2 (a 0) (a 1) (b 0) (b 1)≠0∨dt2 (a 0) (a 2) (b 0) (b 2)≠0∨dt2 (a 1) (a 2) (b 1) (b 2)≠0
 .refine⟨v4 (dt2 (a 1) (a 2) (b 1) (b 2)) (- dt2 (a 0) (a 2) (b 0) (b 2)) (dt2 (a 0) (a 1) (b 0) (b 1)) 0,KM aa,Ee _ _ _ _,KN (bd _ _) (bn _ _) (bd _ _) z,?_,?_,?_⟩<;>rw[ML]<;>simp only[dt2,dt3]at * <;>grind
 by_cases h2:dt2 (a 0) (a 3) (b 0) (b 3)≠0∨dt2 (a 1) (a 3) (b 1) (b 3)≠0
 .refine⟨v4 (dt2 (a 1) (a 3) (b 1) (b 3)) (- dt2 (a 0) (a 3) (b 0) (b 3)) 0 (dt2 (a 0) (a 1) (b 0) (b 1)),KM aa,Ee _ _ _ _,KN (bd _ _) (bn _ _) z (bd _ _),?_,?_,?_⟩<;>rw[ML]<;>simp only[dt2,dt3]at * <;>grind
 refine⟨v4 0 (dt2 (a 2) (a 3) (b 2) (b 3)) (- dt2 (a 1) (a 3) (b 1) (b 3)) (dt2 (a 1) (a 2) (b 1) (b 2)),KM ?_,Ee _ _ _ _,KN z (bd _ _) (bn _ _) (bd _ _),?_,?_,?_⟩
 .obtain⟨i,j,hi,hj,hn⟩:=h;have sw:∀i j,dt2 (a i) (a j) (b i) (b j) = - dt2 (a j) (a i) (b j) (b i):=λi j=>by simp only[dt2];grind
  have se:∀i,dt2 (a i) (a i) (b i) (b i)=0:=λi=>by simp only[dt2];grind
  have i4:i=0∨i=1∨i=2∨i=3:=aa;have j4:j=0∨j=1∨j=2∨j=3:=aa;rcases i4 with rfl|rfl|rfl|rfl<;>rcases j4 with rfl|rfl|rfl|rfl<;>grind
 all_goals rw[ML];simp only[dt2,dt3]at *;grind
theorem abx(u:Ve)(i j:Nat)(hi:i<4)(hj:j<4)(hij:i≠j)(p q:Int):dt4 u (λt=>if t=i then p else if t=j then q else 0)=u i*p+u j*q:=by have i4:i=0∨i=1∨i=2∨i=3:=aa;have j4:j=0∨j=1∨j=2∨j=3:=aa;rcases i4 with rfl|rfl|rfl|rfl<;>rcases j4 with rfl|rfl|rfl|rfl<;>simp_all[dt4]<;>omega
theorem adh{a b c:Ve}(ha:∀j,(a j).natAbs<=9)(hb:∀j,(b j).natAbs<=9)(hc:∀j,(c j).natAbs<=9):∃x,Sm4 a b c x:=by
 by_cases hd:dt3 a b c 0 1 2=0∧dt3 a b c 0 1 3=0∧dt3 a b c 0 2 3=0∧dt3 a b c 1 2 3=0
 case neg=>
  have bd:=ad8 ha hb hc;have bn:∀i j k,(- dt3 a b c i j k).natAbs<=4374:=λi j k=>by rw[X0];exact bd i j k
  refine⟨v4 (dt3 a b c 1 2 3) (- dt3 a b c 0 2 3) (dt3 a b c 0 1 3) (- dt3 a b c 0 1 2),KM aa,Ee _ _ _ _,KN (bd ..) (bn ..) (bd ..) (bn ..),?_,?_,?_⟩<;>rw[ML]<;>simp only[dt2,dt3]<;>grind
 obtain⟨d1,d2,d3,d4⟩:=hd;have cyc:∀i j k,dt3 c a b i j k=dt3 a b c i j k:=λi j k=>by simp only[dt2,dt3];grind
 have cyc2:∀i j k,dt3 b a c i j k = - dt3 a b c i j k:=λi j k=>by simp only[dt2,dt3];grind
 by_cases h1:∃i j,i<4∧j<4∧dt2 (a i) (a j) (b i) (b j)≠0
 .exact IU ha hb (by rw[cyc];exact d1) (by rw[cyc];exact d2) (by rw[cyc];exact d3) (by rw[cyc];exact d4) h1
 by_cases h2:∃i j,i<4∧j<4∧dt2 (a i) (a j) (c i) (c j)≠0
 .obtain⟨x,x1,x2,x3,x4,x5,x6⟩:=IU (c:=b) ha hc (by rw[cyc2,d1];rfl) (by rw[cyc2,d2];rfl) (by rw[cyc2,d3];rfl) (by rw[cyc2,d4];rfl) h2;exact⟨x,x1,x2,x3,x4,x6,x5⟩
 by_cases h3:∃i j,i<4∧j<4∧dt2 (b i) (b j) (c i) (c j)≠0
 .obtain⟨x,x1,x2,x3,x4,x5,x6⟩:=IU (c:=a) hb hc d1 d2 d3 d4 h3;exact⟨x,x1,x2,x3,x6,x4,x5⟩
 have g1:∀i j,i<4->j<4->dt2 (a i) (a j) (b i) (b j)=0:=λi j hi hj=>Classical.byContradiction λh=>h1 ⟨i,j,hi,hj,h⟩
 have g2:∀i j,i<4->j<4->dt2 (a i) (a j) (c i) (c j)=0:=λi j hi hj=>Classical.byContradiction λh=>h2 ⟨i,j,hi,hj,h⟩
 have g3:∀i j,i<4->j<4->dt2 (b i) (b j) (c i) (c j)=0:=λi j hi hj=>Classical.byContradiction λh=>h3 ⟨i,j,hi,hj,h⟩
 -- all rows go one way
 by_cases hz:∃i,i<4∧(a i≠0∨b i≠0∨c i≠0)
 .obtain⟨i,hi,hn⟩:=hz;obtain⟨j,hj,hij⟩:∃j,j<4∧i≠j:=⟨if i=0 then 1 else 0,by split<;>omega,by split<;>omega⟩
  have go:∀r:Ve,(∀j,(r j).natAbs<=9)->r i≠0->r j*a i=r i*a j->r j*b i=r i*b j->r j*c i=r i*c j->∃x,Sm4 a b c x:=λr hr hri e1 e2 e3=>by
   refine⟨λt=>if t=i then r j else if t=j then-r i else 0,⟨j,?_⟩,λt ht=>?_,λt=>?_,?_,?_,?_⟩
   .simp only[if_neg (Ne.symm hij),if_true];omega
   .simp only[if_neg (show t≠i by omega),if_neg (show t≠j by omega)]
   .have:=hr i;have:=hr j;simp only
    repeat' split
    all_goals omega
   all_goals rw[abx _ _ _ hi hj hij];grind
  have k1:=g1 i j hi hj;have k2:=g2 i j hi hj;have k3:=g3 i j hi hj;simp only[dt2]at k1 k2 k3;rcases hn with hn|hn|hn
  .exact go a ha hn (by grind) (by grind) (by grind)
  .exact go b hb hn (by grind) (by grind) (by grind)
  .exact go c hc hn (by grind) (by grind) (by grind)
 ·have z:∀i,i<4->a i=0∧b i=0∧c i=0:=λi hi=>by
   refine⟨?_,?_,?_⟩<;>exact Classical.byContradiction λh=>hz ⟨i,hi,aa⟩
  have z0:=z 0 af;have z1:=z 1 af;have z2:=z 2 af;have z3:=z 3 af;refine⟨v4 1 0 0 0,KM af,Ee _ _ _ _,KN af af af af,?_,?_,?_⟩<;>rw[ML]<;>simp[z0,z1,z2,z3]
theorem aa7(hm:m.length<=3)(hb:BdE 9 m)(hs:∀v,Spn (vs C) v↔Krn 4 (SpZ m) v)(h1:C.length=1):∀x∈C,∀j,(x.2 j).natAbs<=4374:=by
 obtain ⟨y,rfl⟩:∃y,C=[y]:=by
  match C,h1 with
  |[y],_=>exact⟨y,rfl⟩
 obtain⟨x,⟨j0,hx0⟩,hx1,hx2,e0,e1,e2⟩:=adh (a:=ve (nth [] m 0)) (b:=ve (nth [] m 1)) (c:=ve (nth [] m 2)) (hb 0) (hb 1) (hb 2)
 have hk:Krn 4 (SpZ m) x:=by
  refine⟨λu hu=>Ay (λg hg=>?_) hu,hx1⟩;obtain⟨r,hr,rfl⟩:=Zx.1 hg;obtain⟨i,hi,rfl⟩:=Zi.1 hr;have e3:m[i]=nth [] m i:=by rw[nth,Z6,List.getElem?_eq_getElem hi];rfl
  have hd:∀u,dtV 4 u x=dt4 u x:=λu=>by simp[dtV,dt4]
  rw[e3,hd];have:i=0∨i=1∨i=2:=aa;rcases this with rfl|rfl|rfl<;>assumption
 obtain⟨ks,hk⟩:=(hs x).2 hk;intro z hz j;rw[List.mem_singleton]at hz;subst hz;cases ks with
 |nil=>rw[hk,vA]at hx0;exact absurd rfl hx0
 | cons t ks=>
  have ex:∀i,x i=t*z.2 i:=λi=>by
   rw[hk]
   show t*z.2 i+cmb ks [] i=_
   cases ks<;>simp[cmb]
  have ht:t≠0:=λh=>hx0 (by rw[ex,h,Int.zero_mul])
  have h2:=hx2 j;rw[ex,Zf]at h2;exact Zy (Nat.le_mul_of_pos_left _ aa) h2
theorem Q5{B:Nat}:∀(r:Nat){f g c o:Nat}{m:Mz}{x:Nat×Mz},clZ B f r c o m=some x->f<=g->clZ B g r c o m=some x
 |0,f,g,c,o,m,x,h,_=>h
 | r+1,f,g,c,o,m,x,h,hg=>by
  have h2:pC [] (λr=>r) (λ_ r=>r) B f (r+1) c o m=some x:=h
  show pC [] (λr=>r) (λ_ r=>r) B g (r+1) c o m=some x
  simp only[pC]at h2 ⊢;split at h2
  .rename_i ho;rw[if_pos ho];split at h2
   .rename_i o1 m1 hr;have hr2:nD [] (λr=>r) (λ_ r=>r) B c g o m=some (o1,m1):=Jb f g hr hg;rw[hr2];exact Q5 r h2 hg
   trivial
  grind
theorem BS{B g c:Nat}{x:Nat×Mz}(h:rG B f c m=some x)(hg:f<=g):rG B g c m=some x:=Q5 c h hg
theorem FE{B g:Nat}(h:vg B f n m=some z)(hg:f<=g):vg B g n m=some z:=by grind[vg,BS,ZE]
def shC(k:Nat)(m:List (Nat×Ve)):List (Nat×Ve):=(m.filter λx=>decide (k<=x.1)).map λx=>(x.1-k,λj=>x.2 (k+j))
theorem WO(k:Nat):∀{m:List (Nat×Ve)}{o:Nat},Hnf o m->Hnf (o-k) (shC k m)
 |[],o,H=>trivial
 | (l,h)::m,o,⟨⟨a,b,c⟩,d,r⟩=>by
  have ih:=WO k r;by_cases hk:k<=l
  .have e:shC k ((l,h)::m)=(l-k,λj=>h (k+j))::shC k m:=by simp[shC,List.filter_cons,hk]
   rw[e];refine⟨⟨aa,?_,λj hj=>c _ aa⟩,λx hx=>?_,?_⟩
   .show 0<h (k+(l-k))
    rw[show k+(l-k)=l by omega];exact b
   .obtain⟨y,hy,rfl⟩:=Zx.1 hx;obtain⟨hy,hky⟩:=Xx.1 hy;have hky:k<=y.1:=by simpa using hky
    show 0<=h (k+(y.1-k))∧h (k+(y.1-k))<y.2 (k+(y.1-k))
    rw[show k+(y.1-k)=y.1 by omega]
    grind
   .rw[show l+1-k=l-k+1 by omega]at ih;exact ih
  .have e:shC k ((l,h)::m)=shC k m:=by simp[shC,List.filter_cons,hk]
   rw[e];exact WN aa ih
theorem xz{L:Nat->Nat}{m:Mz}:∀{r i k:Nat},i<=k->k<i+r->(L k,ve (nth [] m k))∈ldZ L m r i
 |0,i,k,a,b=>by omega
 | r+1,i,k,a,b=>by
  by_cases e:k=i
  .grind[ldZ]
  .exact List.mem_cons_of_mem _ (xz aa aa)
theorem ab2{w:Mz}(H:Hm (m.length+n) (m.length+n) o L w)(e:SpE (lI n m) w):
  ∃C,Hnf 0 C∧(∀v,Spn (vs C) v↔Krn n (SpZ m) v)∧∀r∈wn m.length (w.take o),∃x∈C,ve r=x.2:=by
 obtain⟨tl,H2,e2⟩:=Af H;have sp:∀u,SpZ (w.take o) u↔Wid n m u:=λu=>(((e.trans e2) u).symm).trans (He u)
 have hh:=tQ H2 o 0 0 aa (λ_=>Y8 _);refine⟨shC m.length (ldZ L (w.take o) o 0),by have:=WO m.length hh;grind,λv=>?_,λr hr=>?_⟩
 .constructor
  .refine λh=>Krn.spn (λg hg=>?_) h
   obtain⟨x',hx',rfl⟩:=Zx.1 hg;obtain⟨x,hx,rfl⟩:=Zx.1 hx';obtain⟨hx,hk⟩:=Xx.1 hx;have hk:m.length<=x.1:=by simpa using hk
   obtain⟨i,_,hi,rfl⟩:=u5 hx;have hw:=(sp (ve (nth [] (w.take o) i))).1 (ic aa);refine⟨λu hu=>?_,λj hj=>hw.2 _ aa⟩;refine Ay (λg hg=>?_) hu;obtain⟨r,hr,rfl⟩:=Zx.1 hg;obtain⟨k,hk2,rfl⟩:=Zi.1 hr;have e1:m[k]=nth [] m k:=by rw[nth,Z6,List.getElem?_eq_getElem hk2];rfl
   rw[e1,<-hw.1 k hk2];have hk:m.length<=L i:=hk;exact H2.low i aa k aa
  .intro h
   let u:Ve:=λj=>if j<m.length then 0 else v (j-m.length)
   have hsh:(λj=>u (m.length+j))=v:=funext λj=>by
    grind
   have hw:Wid n m u:=by
    refine⟨λi hi=>?_,λj hj=>?_⟩
    .rw[hsh,h.1 _ (ic hi)]
     grind
    .show(if j<m.length then 0 else v (j-m.length))=0
     rw[if_neg aa];exact h.2 _ aa
   have h1:=(sp u).2 hw;rw[<-qF H2 (Z8 _)]at h1;have h2:=yR hh m.length h1 (λj hj=>if_pos hj);have h3:=Hy m.length h2;rw[hsh]at h3
   have e3:(vs ((ldZ L (w.take o) o 0).filter λx=>decide (m.length<=x.1))).map (λg j=>g (m.length+j))=vs (shC m.length (ldZ L (w.take o) o 0)):=by
    simp[vs,shC,Wj,Function.comp_def]
   grind
 .obtain⟨y,hy,rfl⟩:=Zx.1 hr;obtain⟨hy,hb⟩:=Xx.1 hy;obtain⟨i,hi,rfl⟩:=Zi.1 hy;have e1:(w.take o)[i]=nth [] (w.take o) i:=by rw[nth,Z6,List.getElem?_eq_getElem hi];rfl
  rw[e1]at hb ⊢;have hb:=((Ki _ _).1 hb).2
  have hk:m.length<=L i:=Decidable.byContradiction λhn=>by
   have:=H2.pos i aa;have h0:=hb (L i) aa
   grind
  refine⟨_,Zx.2 ⟨(L i,ve (nth [] (w.take o) i)),Xx.2 ⟨xz aa aa,by grind⟩,rfl⟩,funext λj=>Jl _ _ _⟩
theorem ZX(hE:1<=E)(hb:BdE E m):BdE E (lI n m):=λi j=>by
 by_cases hi:i<n
 .have:=ze (m:=m) hi j;simp only[ve]at this;simp only[eZ,this];split
  .exact hb j i
  .split<;>simp<;>omega
 grind[nth.eq_1,tY]
theorem ut(h:m.length<=i)(j:Nat):eZ m i j=0:=by rw[eZ,show nth [] m i=[] by rw[nth,Z6,List.getElem?_eq_none h];rfl];rfl
theorem FD(hn:n<=4)(hE:E<=10^9)(hb:BdE (10^9) m)(hcan:∀C:List (Nat×Ve),Hnf 0 C->(∀v,Spn (vs C) v↔Krn n (SpZ m) v)->∀x∈C,∀j,(x.2 j).natAbs<=E):
  ∃f z,vg 100000 f n m=some z∧BdE E z:=by
 obtain⟨f0,h0⟩:=BR (m.length+n) (IG n m) (by grind[tY]) (ZX af hb);obtain⟨o,w,hw⟩:=h0 f0 (Z8 _);obtain⟨⟨L,H⟩,e,hlw⟩:=DT (IG n m) hw;obtain⟨C,hC,hs,hr⟩:=ab2 H e
 have hbl:BdE (10^9) (wn m.length (w.take o)):=λi j=>by
  by_cases hi:i<(wn m.length (w.take o)).length
  .obtain⟨x,hx,ex⟩:=hr (wn m.length (w.take o))[i] (Yx hi);have e1:(wn m.length (w.take o))[i]=nth [] (wn m.length (w.take o)) i:=by rw[nth,Z6,List.getElem?_eq_getElem hi];rfl
   rw[e1]at ex;have:=congrFun ex j
   grind[ve]
  .rw[ut aa];simp
 have hlen:(wn m.length (w.take o)).length<=4:=by
  have h1:(wn m.length (w.take o)).length<=(w.take o).length:=by
   simp only[wn,List.length_map];exact List.length_filter_le _ _
  have h2:(w.take o).length<=w.length:=by rw[Zs];omega
  rw[hlw,tY]at h2;omega
 have key:∃f z,vg 100000 f n m=some z:=by
  obtain⟨f1,h1⟩:=BR n (Ra (Af H).2.1.ln) hlen hbl;obtain⟨o1,w1,hw1⟩:=h1 (max f0 f1) aa;by_cases hz:wn m.length (w.take o)=[]
  .refine⟨f0,[],?_⟩;unfold vg;rw[hw]
   show(if wn m.length (w.take o)=[]then some []else _)=some []
   grind
  .refine⟨max f0 f1,w1.take o1,?_⟩;unfold vg;rw[BS hw (by omega:f0<=max f0 f1)]
   show (if wn m.length (w.take o)=[]then some []else match rG 100000 (max f0 f1) n (wn m.length (w.take o))with
    |some (o,w)=>some (w.take o)
    |none=>none)=_
   grind
 obtain⟨f,z,hz⟩:=key;obtain⟨⟨L2,H2⟩,s2⟩:=zX hz;refine⟨f,z,hz,λi j=>?_⟩;by_cases hi:i<z.length
 .have:=hcan (ldZ L2 z z.length 0) (tQ H2 z.length 0 0 aa (λ_=>Y8 _)) (λv=>by grind[qF]) _ (xz aa (by omega:i<0+z.length)) j;exact this
 .rw[ut aa];simp
def HmF(n:Nat)(m:Mz):Prop:=∃L,Hm n n m.length L m
structure aev(n:Nat)(m g w c:Mz)(f:Nat):Prop where
 g0:∃o g',rG 100000 f n m=some (o,g')∧g'.take o=g
 gw:vg 100000 f n g=some w
 wc:vg 100000 f n w=some c
 cw:vg 100000 f n c=some w
 hg:HmF n g
 hw:HmF n w
 hc:HmF n c
 bg:BdE (10^9) g
 bw:BdE (10^6) w
 bc:BdE (10^6) c
 sw:w.length=2->BdE 157464 w
 sc:c.length=2->BdE 157464 c
theorem aa5(hn:n<=4)(hm:m.length<=3)(hl:Ln n m)(hb:BdE 9 m):∃g w c f,aev n m g w c f:=by
 -- the form of the rows
 obtain⟨f0,h0⟩:=BR n hl aa (hb.mono af);obtain⟨o,g',hg'⟩:=h0 f0 (Z8 _);obtain⟨⟨Lg,Hg⟩,eg⟩:=If hl hg';obtain⟨g,rfl⟩:=nmQ (g'.take o)
 have out:∀u,SpZ m u->∀j,n<=j->u j=0:=λu hu j hj=>by
  obtain⟨X,hX⟩:=K3 hu;rw[hX j,show(λk=>eZ m k j)=λ_=>0 from funext λk=>Tu hl hj,qU];exact qS _ _
 have hC0:=tQ Hg (g'.take o).length 0 0 aa (λ_=>Y8 _);have sC0:∀v,Spn (vs (ldZ Lg (g'.take o) (g'.take o).length 0)) v↔SpZ m v:=λv=>by rw[qF Hg (Z8 _)];exact(eg v).symm
 have ltC0:∀x∈ldZ Lg (g'.take o) (g'.take o).length 0,x.1<n:=λx hx=>by
  obtain⟨k,_,hk,rfl⟩:=u5 hx;exact Hg.lt k aa
 have sm:m.length*(9*slB m.length 9)<=78732:=by
  have:m.length=0∨m.length=1∨m.length=2∨m.length=3:=aa;rcases this with h|h|h|h<;>rw[h]<;>decide
 have small:∀(C:List (Nat×Ve)),C.length<=4->C.length*(m.length*(9*slB m.length 9))<=10^6:=λC hC=>by
  have:=Zr hC sm;omega
 have bg:BdE (10^9) (g'.take o):=λi j=>by
  by_cases hi:i<(g'.take o).length
  .have h1:=Pr hC0 (λv hv=>(sC0 v).2 hv) (λv hv=>⟨1,aa,by grind⟩) aa hb _ (xz aa (by omega:i<0+(g'.take o).length)) j;have h2:=small _ (Zy (xx hC0 ltC0) hn);exact Zy h1 (Zy h2 af)
  .rw[ut aa];simp
 -- bounds of the kernels
 have can1:∀C:List (Nat×Ve),Hnf 0 C->(∀v,Spn (vs C) v↔Krn n (SpZ m) v)->∀x∈C,∀j,(x.2 j).natAbs<=10^6:=λC hC hs x hx j=>by
  have hlt:∀x∈C,x.1<n:=λx hx=>Decidable.byContradiction λh=>by
   have h1:=((hs x.2).1 (Spn.mem (Zx.2 ⟨x,hx,rfl⟩))).2 x.1 aa
   have hp:∀{C:List (Nat×Ve)}{o:Nat},Hnf o C->∀x∈C,0<x.2 x.1:=by
    intro C
    induction C with
    |nil=>simp
    | cons y C ih=>
     intro o H x hx;obtain⟨l,h⟩:=y;rcases Zw.1 hx with rfl|hx
     .exact H.1.2.1
     .exact ih H.2.2 x hx
   grind
  have hcl:=xx hC hlt;have hc0:0<C.length:=List.length_pos_of_mem hx;by_cases h4:n=4∧C.length=1
  .rw[h4.1]at hs;exact Zy (aa7 hm hb hs h4.2 x hx j) af
  refine Zy (Wc hC hs aa hb x hx j) ?_;generalize C.length=t at *;have h1:n=0∨n=1∨n=2∨n=3∨n=4:=aa;have h2:t=1∨t=2∨t=3∨t=4:=aa
  rcases h1 with h|h|h|h|h<;>subst h<;>rcases h2 with h|h|h|h<;>subst h<;>first
   |decide
   |omega
 have can2:∀C:List (Nat×Ve),Hnf 0 C->(∀v,Spn (vs C) v↔Krn n (Krn n (SpZ m)) v)->C.length<=4∧∀x∈C,∀j,(x.2 j).natAbs<=C.length*(m.length*(9*slB m.length 9)):=λC hC hs=>by
  have hlt:∀x∈C,x.1<n:=λx hx=>Decidable.byContradiction λh=>by
   have h1:=((hs x.2).1 (Spn.mem (Zx.2 ⟨x,hx,rfl⟩))).2 x.1 aa;rcases qR hC (v:=x.2) (Spn.mem (Zx.2 ⟨x,hx,rfl⟩))with z|⟨y,hy,y1,y2,_⟩
   .have hr:=Ae hC x hx;obtain⟨v,v1,v2,v3,v4⟩:=hr;exact v2 (((hs v).1 v1).2 x.1 aa)
   .obtain⟨v,v1,v2,v3,v4⟩:=Ae hC x hx;exact v2 (((hs v).1 v1).2 x.1 aa)
  refine⟨Zy (xx hC hlt) hn,Pr hC (λv hv=>(hs v).2 ⟨λu hu=>by rw[qU];exact hu.1 v hv,out v hv⟩) (λv hv=>?_) aa hb⟩;exact Wb hC0 ltC0 sC0 out ((hs v).1 hv)
 have eK:∀{S T:Ve->Prop},(∀v,S v↔T v)->∀v,Krn n S v↔Krn n T v:=λh v=>⟨FC λu hu=>(h u).2 hu,FC λu hu=>(h u).1 hu⟩
 -- the kernels
 obtain⟨f1,w,hw,bw⟩:=FD (E:=10^6) hn af bg (λC hC hs=>can1 C hC λv=>(hs v).trans (eK (λu=>(eg u).symm) v));obtain⟨Hw,sw⟩:=zX hw;have sw':∀v,SpZ w v↔Krn n (SpZ m) v:=λv=>(sw v).trans (eK (λu=>(eg u).symm) v)
 obtain ⟨f2,c,hc,bc⟩:=FD (E:=10^6) hn af (bw.mono af) (λC hC hs x hx j=>by
  obtain⟨h1,h2⟩:=can2 C hC λv=>(hs v).trans (eK sw' v)
  exact Zy (h2 x hx j) (small C h1))
 obtain⟨Hc,sc⟩:=zX hc;have sc':∀v,SpZ c v↔Krn n (Krn n (SpZ m)) v:=λv=>(sc v).trans (eK sw' v)
 have s3:∀v,Krn n (SpZ c) v↔Krn n (SpZ m) v:=λv=>(eK sc' v).trans (Sx out v)
 obtain⟨f3,w2,hw2,_⟩:=FD (E:=10^6) hn af (bc.mono af) (λC hC hs=>can1 C hC λv=>(hs v).trans (s3 v));obtain⟨⟨L2,H2⟩,sw2⟩:=zX hw2;obtain⟨Lw,Hw'⟩:=Hw;have ew:w2=w:=abf H2 Hw' λv=>((sw2 v).trans (s3 v)).trans (sw' v).symm
 subst ew;refine⟨_,_,c,max (max f0 f1) (max f2 f3),⟨o,g',BS hg' aa,rfl⟩,FE hw aa,FE hc aa,FE hw2 aa,⟨Lg,Hg⟩,⟨Lw,Hw'⟩,Hc,bg,bw,bc,λh2 i j=>?_,λh2 i j=>?_⟩
 .by_cases hi:i<w2.length
  case neg=>rw[ut aa];simp
  have h1:=Wc (tQ Hw' w2.length 0 0 aa (λ_=>Y8 _)) (λv=>by rw[qF Hw' (Z8 _)];exact sw' v) aa hb _ (xz aa (by omega:i<0+w2.length)) j;rw[xy,h2]at h1;refine Zy h1 ?_;have h1:n=0∨n=1∨n=2∨n=3∨n=4:=aa;rcases h1 with h|h|h|h|h<;>rw[h]<;>decide
 .by_cases hi:i<c.length
  case neg=>rw[ut aa];simp
  obtain⟨Lc,Hc'⟩:=Hc;obtain⟨_,h1⟩:=can2 _ (tQ Hc' c.length 0 0 aa (λ_=>Y8 _)) (λv=>by rw[qF Hc' (Z8 _)];exact sc' v);have h3:=h1 _ (xz aa (by omega:i<0+c.length)) j;rw[xy,h2]at h3;exact Zy h3 (Zy (Z1 2 sm) af)
open Go Go.Am Go.Big
def acL:Acc:=⟨1,0,1,.none⟩
def tJ:LLQ:=[[2,3,5],[2,3,5,7],[2,3],[2,3,7],[2,5,7],[3,5,7],[2,3,5,11],[2],[2,3,7,13],[3,5,7,13]]
def mY(k:Nat):LiQ:=tJ.getD (k%10) []
theorem LJ(hk:k<256):CP Y F.eF [.d (.int .u8 k)] (lst di (mY k)):=by
 refine vN ?_;have c1:cvI .i64 (.d (.int .u8 (k:Int)))=some (I k):=by rw[QZ,wrap_i64 ⟨aa,aa⟩]
 have m1:biI .rem (I (k:Int)) (I 10)=some (I ((k%10:Nat):Int)):=by
  rw[abW aa,Zv aa];congr 3
 have hkk:k%10<10:=Yz _ af;have i1:=λH:Hp=>oE row tJ H (k:=.i64) (i:=((k%10:Nat):Int)) aa (by show((k%10:Nat):Int)<10;omega)
 have i2:=λH:Hp=>eH row [] tJ H (j:=k%10) hkk
 have hn:nth [] tJ (k%10)=mY k:=rfl;rw[hn]at i2;generalize k%10=j at *;simp only[Int.toNat_natCast]at i1;simp(disch:=try exact ae)[eF,dX,iP,kT,toD,c1];have hw:IntKind.wrap .i64 (k:Int)=(k:Int):=wrap_i64 ⟨aa,aa⟩
 show rn (bnd (aQ (lst row tJ))) (λv13=>bnd (biI .rem (.d (.int .i64 (IntKind.i64.wrap k))) v13) λv14=>bnd (ixV [] 1 (lst row tJ) v14) λv15=>bnd (ld1 [] v15) λv16=>out (lst di (mY k)) v16 []) .mk
 have l10:aQ (lst row tJ)=some (I 10):=rfl;rw[hw,l10];rw[adm];rw[show biI .rem (.d (.int .i64 (k:Int))) (I 10)=some (I (j:Int))from m1];rw[AF,i1,AF,i2,AF];exact aaI ..
def itv(l:Nat)(e:LiQ):LiQ:=(e.take l).map λx=>x.tmod 10
def i8V(x:Int):V:=.d (.int .i8 x)
def itH(e:LiQ)(L:Nat)(c:LdQ):Hp:=[(1,.vars (e.map i8V)),acL.b L c]
theorem Vq:∀e:LiQ,offB [] (.vars (e.map i8V))=true
 |[]=>rfl
 | x::e=>by
  have:=Vq e;rw[Qa]at this ⊢;simp[jI,rz,i8V];simpa[i8V]using this
theorem Mt{p:LiQ}{e:LiQ}(he:e.length=4)(hb:∀x∈e,-128<=x∧x<=127)(hp:p.length<=4)(k:KL)(h0:Hp)(hh:h0.length=2):∀(f i:Nat),i+f=p.length ->
  k (.exit 0) [acL.v (itv p.length e).length ((itv p.length e).map di)] (itH e (itv p.length e).length ((itv p.length e).map di)) ->
  lp (gN (CX Y) (lst di p) (.ptr 0 1 0 4)) [] h0 [acL.v (itv i e).length ((itv i e).map di),I i] (itH e (itv i e).length ((itv i e).map di)) k
 | 0,i,hi,hk=>by
  have g:¬(i:Int)<(p.length:Int):=aa;have:i=p.length:=aa;subst this;have l1:aQ (lst di p)=some (I p.length):=rfl;refine aj ?_;simp(disch:=try exact ae)[gN,l1];exact hk
 | f+1,i,hi,hk=>by
  have g:(i:Int)<(p.length:Int):=aa;have g2:(i:Int)<4:=aa;have l1:aQ (lst di p)=some (I p.length):=rfl;obtain⟨x,hx⟩:∃x,e[i]?=some x:=⟨e[i]'(by omega),List.getElem?_eq_getElem aa⟩;have hxm:=hb x (X5 hx);have li:(itv i e).length=i:=by simp[itv];omega
  have ih:=Mt he hb hp k h0 hh f (i+1) aa hk
  have es:itv (i+1) e=itv i e++[x.tmod 10]:=by
   unfold itv;rw[List.take_add_one,hx];simp
  rw[es]at ih;have hlt:i<e.length:=aa
  have hxe:e[i]=x:=by
   have:=List.getElem?_eq_getElem hlt;rw[hx]at this;simpa using this.symm
  have he':4=e.length:=he.symm;have r1 : -10<x.tmod 10:=Int.lt_tmod_of_pos x af;have r2:=Int.tmod_lt_of_pos x (b:=10) af;have li1:∀(z:Int)(H:Hp),dX 1 [D.int IntKind.i64 0] [(0,V.d (D.int IntKind.i64 z))] H=some ([di z],H):=λz H=>by simp[dX,iP,kT,toD,di]
  have cR:((itv i e).map di).length=(itv i e).length*acL.n:=by simp[acL]
  have bY:∀x y:Nat×Bk,([(1,.vars (e.map i8V)),x]:Hp).set acL.s y=[(1,.vars (e.map i8V)),y]:=λx y=>rfl
  have hre:∀x:Hp,x.length=2->aL [] 0 h0 x=x:=λx hx=>uS 0 h0 x aa
  have ev:∀c,acL.v ((itv i e).length+1) c=.ref acL.s (acL.e+1) 0 ((itv i e).length+1) ((itv i e).length+1) c.length:=λc=>rfl
  have eb:∀c,acL.b ((itv i e).length+1) c=(acL.e+1,.data acL.n c false false):=λc=>rfl
  refine aj ?_;simp(disch:=try exact ae)[gN,l1,g,g2,itH,he',hxe,i8V,li1];refine md acL (k:=1) aa rfl cR (by rfl) rfl (λt e=>by cases e) aa af ?_;have hoff:=Vq e;simp(disch:=try exact ae)[bY,hre,clean,jI,P8,P7,iJ,rz,hoff];refine⟨rfl,?_⟩;simpa[ev,eb,itH]using ih
theorem Ns{p:LiQ}{a b c:Int}(ha : -128<=a∧a<=127)(hb : -128<=b∧b<=127)(hc : -128<=c∧c<=127)(hd : -128<=d∧d<=127)(hp:p.length<=4):CP Y F.dD [lst di p,.agg [i8V a,i8V b,i8V c,i8V d]] (lst di (itv p.length [a,b,c,d])):=by
 refine uh ?_
 have hl:=Mt (p:=p) (e:=[a,b,c,d]) rfl (by
  intro x hx;simp only[Zw,Yo,or_false]at hx;rcases hx with rfl|rfl|rfl|rfl<;>assumption) hp (exK [((.exit 0),λl2 h=>out (lst di (itv p.length [a,b,c,d])) (ge l2 0) h)]) [(1,.vars [i8V a,i8V b,i8V c,i8V d]),nnQ] rfl p.length 0 aa (by
  obtain⟨h',q1,_⟩:=nN acL (L:=(itv p.length [a,b,c,d]).length) (cells:=(itv p.length [a,b,c,d]).map di) (h:=itH [a,b,c,d] (itv p.length [a,b,c,d]).length ((itv p.length [a,b,c,d]).map di)) rfl (by simp[acL]);simp only[exK];exact⟨h',q1⟩)
 simp(disch:=try exact ae)[dD];exact hl
theorem Bm(k:Nat):mY k∈tJ:=by simp[mY,tJ,Yz]
theorem Vb:∀l∈tJ,pcB l=0∧l.Nodup∧0<l.length∧l.length<=4∧∀x∈l,x∈c6P:=by trivial
abbrev Rw:=LiQ
theorem RZ{x:LiQ}(hx:x.length<1000000000)(hy:y.length<1000000000):CP Y F.qk [lst di x,lst di y] (B (decide (x=y))):=by refine Lt ?_;simp(disch:=try exact ae)[qk];refine cd (Cz hx hy) ?_;simp(disch:=try exact ae)
def qO(c:Int)(m:LLQ):V:=.agg [I c,mat m]
theorem Su{c:Int}{m m':LLQ}(hm:m.length<1000000)(hm':m'.length<1000000)(h2:∀r∈m,r.length<1000000)(h3:∀r∈m',r.length<1000000):
  CP Y F.kr [qO c m,qO c' m'] (B (decide (c=c'∧m=m'))):=by
 refine C5 ?_;simp only[kr,qO];have eq:=XI (g:=F.qk) (λx y hx hy=>RZ (x:=x) (y:=y) aa aa) hm hm' h2 h3;by_cases e:c=c'
 .simp(disch:=try exact ae)[e];refine cd eq ?_ (by simp[aT,cO,mat,lst,norm]);exact ju (by simp[e])
 .simp(disch:=try exact ae)[e]
def Ou(n:Int):Bool:=decide (n>1000000000)||decide (n < -1000000000)
theorem Rv(n:Int):CP Y F.pf [I n] (B (Ou n)):=by
 refine Gy ?_;simp[pf];by_cases h:n>1000000000
 .simp[h]
  grind[ju,Ou]
 .simp(disch:=try exact ae)[h]
  grind[ju,Ou]
def Gx(c:Nat):LLQ->Int
 |[]=>0
 |r::q=>if 12<r.length then 4 else if r.length≠c then 5 else if r.any Ou=true then 4 else Gx c q
def tcB(m:LLQ):Int:=if 12<m.length then 4 else Gx (nth [] m 0).length m
theorem Hs{m:LLQ}(hm:m.length<1000000)(hr:∀r∈m,r.length<1000000)(K:KL):∀(q a:LLQ),m=a++q->(Gx (nth [] m 0).length q=0->K (.exit 0) [] [])->(Gx (nth [] m 0).length q≠0->K .ret [I (Gx (nth [] m 0).length q)] []) ->
  lp (pI (CX Y) (mat m) (mat m) (I m.length)) [] [] [I a.length] [] K
 | [],a,e,h0,h1=>by
  simp only[Zp]at e;subst e;refine aj ?_;have hlt:¬((m.length:Int)<(m.length:Int)):=aa;simp only[pI];simp[hlt];exact h0 rfl
 | r::q,a,e,h0,h1=>by
  refine aj ?_;have hlt:((a.length:Int)<(m.length:Int)):=by rw[e];simp;omega
  have hl:a.length<m.length:=aa;have hrm:r∈m:=by rw[e];simp
  have i1:ixV [] 1 (mat m) (I a.length)=some (.dptr (m.map row) a.length):=by rw[e];exact vh row a r q _ _
  have i2:ld1 [] (.dptr (m.map row) a.length)=some (lst di r):=by
   rw[k8 row m _ hl];simp only[e,Zl (Z8 _),Ze,Zh];rfl
  have j1:ixV [] 1 (mat m) (.d (.int .i64 0))=some (.dptr (m.map row) 0):=d8 row m [] rfl aa;have j2:ld1 [] (.dptr (m.map row) 0)=some (lst di (nth [] m 0)):=eH row [] m [] aa;simp only[pI];simp only[Gx]at h0 h1;by_cases g1:12<r.length
  .have g1':((r.length:Int)>12):=aa;rw[if_pos g1]at h0 h1;simp[hlt,i1,i2,g1']
   grind
  .have g1':¬((r.length:Int)>12):=aa;rw[if_neg g1]at h0 h1;by_cases g2:r.length≠(nth [] m 0).length
   .have g2':(r.length:Int)≠((nth [] m 0).length:Int):=aa;rw[if_pos g2]at h0 h1;simp[hlt,i1,i2,g1',j1,j2,g2']
    grind
   .have g2':(r.length:Int)=((nth [] m 0).length:Int):=aa;rw[if_neg g2]at h0 h1;simp(disch:=try exact ae)[hlt,i1,i2,g1',j1,j2,g2'];refine cd (xf r aa λx _=>Rv x) ?_;by_cases g3:r.any Ou=true
    .rw[if_pos g3]at h0 h1;simp[g3]
     grind
    .rw[if_neg g3]at h0 h1;have g3':r.any Ou=false:=by simpa using g3
     simp(disch:=try exact ae)[g3'];have ih:=Hs hm hr K q (a++[r]) (by simp[e]) h0 h1;have e2:((a++[r]).length:Int)=(a.length:Int)+1:=ac
     simp_all
theorem Rz{m:LLQ}(hm:m.length<1000000)(hr:∀r∈m,r.length<1000000):CP Y F.pi [mat m] (I (tcB m)):=by
 refine Gz ?_;simp only[pi];have l1:aQ (mat m)=some (I m.length):=rfl;by_cases g:12<m.length
 .have g':((m.length:Int)>12):=aa;simp[l1,g']
  grind[aY,tcB]
 .have g':¬((m.length:Int)>12):=aa;simp[l1,g'];refine lo (Hs hm hr _ m [] rfl (λe=>?_) (λe=>?_))
  .simp
   grind[aY,tcB]
  .simp
   grind[aY,tcB]
theorem WM(n:Int):CP Y F.jh [I n] (B (n !=0)):=by
 refine yS ?_;simp[jh]
 grind[ju]
theorem abd(hr:r.length<4611686018427387904):CP Y F.mG [lst di r] (I (piv r)):=by refine C8 ?_;simp[mG];refine cd (Cw r hr λn _=>WM n) ?_;exact aY rfl
theorem Dh{g:FuncId}{cs:LwQ}{p:LiQ->Bool}(hs:∀x:LiQ,aT [] ([lst di x]++cs)=some ([lst di x]++cs,[]))(hc:aT [] cs=some (cs,[]))(l:LLQ)(hN:l.length<1000000)(hp:∀x∈l,CP Y g ([lst di x]++cs) (B (p x))):
  CP Y F.aS [mat l,.fn g [] cs] (B (l.any p)):=by
 refine mK ?_;simp[aS];refine cd (v:=I (idx p l)) (nV (JL (f:=row) (fs:=[]) (cs:=cs) l aa hs hp)) ?_ ?_
 .simp;have:=DR p l;have e:decide (0<=idx p l)=l.any p:=by rw[X7];simpa using this
  simp_all
 simp_all[aT,cO]
def upF(p:Nat)(r o:LiQ):Bool:=decide (nth 0 o p<0)||decide (nth 0 o p≥nth 0 r p)
theorem ac5{p:Nat}{o:LiQ}(hr:p<r.length)(ho:p<o.length):CP Y F.eR [lst di o,.dptr [.int .i64 p] 0,.dptr [row r] 0] (B (upF p r o)):=by
 refine xZ ?_;simp only[eR];have d1:∀h:Hp,ld1 h (.dptr [.int .i64 (p:Int)] 0)=some (I p):=λh=>rfl
 have d2:∀h:Hp,ld1 h (.dptr [row r] 0)=some (lst di r):=λh=>rfl
 have i1:ixV [] 1 (lst di o) (I p)=some (.dptr (o.map di) p):=d8 di o [] rfl ho;have i2:ld1 [] (.dptr (o.map di) p)=some (I (nth 0 o p)):=eH di 0 o [] ho;have i3:ixV [] 1 (lst di r) (I p)=some (.dptr (r.map di) p):=d8 di r [] rfl hr;have i4:ld1 [] (.dptr (r.map di) p)=some (I (nth 0 r p)):=eH di 0 r [] hr;by_cases h:nth 0 o p<0
 .simp[d1,d2,i1,i2,i3,i4,h]
  grind[ju,upF]
 .simp[d1,d2,i1,i2,i3,i4,h]
  grind[ju,upF]
def JN:Int->LLQ->LLQ->Bool
 |_,_,[]=>true
 |before,done,r::q=>if piv r<=before∨nth 0 r (piv r).toNat<0 then false else if done.any (upF (piv r).toNat r)=true then false else JN (piv r) (done++[r]) q
theorem FN{m:LLQ}{c:Nat}(hm:m.length<1000000)(hc:c<1000000)(hr:∀r∈m,r.length=c)(K:KL):∀(q a:LLQ)(b:Int),-1<=b->m=a++q->(JN b a q=true->∀h,K (.exit 0) [] h)->(JN b a q=false->∀h,K .ret [B false] h) ->
  lp (m9 (CX Y) (mat m) (mat m) (I m.length)) [0,1] [nnQ,nnQ] [I b,I a.length] [nnQ,nnQ] K
 | [],a,b,hb,e,h0,h1=>by
  simp only[Zp]at e;subst e;refine aj ?_;have hlt:¬((m.length:Int)<(m.length:Int)):=aa;simp only[m9];simp[hlt];exact h0 rfl _
 | r::q,a,b,hb,e,h0,h1=>by
  refine aj ?_;have hlt:((a.length:Int)<(m.length:Int)):=by rw[e];simp;omega
  have hl:a.length<m.length:=aa;have hrm:r∈m:=by rw[e];simp
  have hrl:r.length=c:=hr r hrm;have i1:∀h:Hp,ixV h 1 (mat m) (I a.length)=some (.dptr (m.map row) a.length):=λh=>by simp_all
  have i2:∀h:Hp,ld1 h (.dptr (m.map row) a.length)=some (lst di r):=λh=>by
   rw[k8 row m _ hl];simp only[e,Zl (Z8 _),Ze,Zh];rfl
  have hp:=adv r;simp only[m9];have s1:st [(1,Bk.vars [V.d nPQ]),(0,Bk.none)] 1 (V.ptr 0 1 0 1) (lst di r)=some [(1,.vars [lst di r]),nnQ]:=by simp[st,sto,aw,bY,okV,lst]
  have g1:∀x:Nat×Bk,ld1 [(1,.vars [lst di r]),x] (V.ptr 0 1 0 1)=some (lst di r):=λx=>by rfl
  simp[hlt,i1,i2,s1,g1];refine cd (abd (r:=r) aa) ?_;have s2:∀z:Int,st [(1,.vars [lst di r]),(1,Bk.vars [V.d (D.int .i64 0)])] 1 (V.ptr 1 1 0 1) (I z)=some [(1,.vars [lst di r]),(1,.vars [I z])]:=λz=>by rfl
  have g2:∀(z:Int)(x:Nat×Bk),ld1 [x,(1,.vars [I z])] (V.ptr 1 1 0 1)=some (I z):=λz x=>by rfl
  simp only[JN]at h0 h1;simp[s2,g2];by_cases c1:piv r<=b
  .rw[if_pos (.inl c1)]at h0 h1;simp[c1,s2,g2]
   grind
  .obtain⟨p,hpp⟩:∃p:Nat,piv r=p:=⟨(piv r).toNat,aa⟩;have hpr:p<r.length:=aa;rw[hpp]at h0 h1 c1 ⊢;rw[Int.toNat_natCast]at h0 h1;have i3:∀h:Hp,ixV h 1 (lst di r) (I p)=some (.dptr (r.map di) p):=λh=>d8 di r h rfl hpr
   have i4:∀h:Hp,ld1 h (.dptr (r.map di) p)=some (I (nth 0 r p)):=λh=>eH di 0 r h hpr
   by_cases c2:nth 0 r p<0
   .rw[if_pos (.inr c2)]at h0 h1;simp(disch:=try exact ae)[c1,c2,s2,g2,g1,i3,i4]
    grind
   .rw[if_neg (by simp only[not_or];exact⟨c1,c2⟩)]at h0 h1
    have sl:∀h:Hp,slV h 1 (mat m) none (some (I a.length))=some (mat a):=λh=>by
     have:=aco row m (h:=h) (i:=a.length) (j:=a.length) aa rfl aa
     grind
    simp(disch:=try exact ae)[c1,c2,s2,g2,g1,i3,i4,sl];have hct:=Dh (g:=F.eR) (cs:=[.dptr [.int .i64 p] 0,.dptr [row r] 0]) (p:=upF p r) (λx=>by rfl) (by rfl) a aa λo ho=>ac5 hpr (by grind)
    refine sX (ds:=[mat a,.fn F.eR [] [.dptr [.int .i64 p] 0,.dptr [row r] 0]]) (h':=[(1,Bk.data 1 [row r] false true),(1,Bk.data 1 [.int .i64 p] false true)]) ?_ hct ?_
    .rfl
    .rw[show(if cD (B (a.any (upF p r)))=true then[(1,Bk.vars [lst di r]),(1,Bk.vars [I (p:Int)])]else[(1,Bk.data 1 [row r] false true),(1,Bk.data 1 [.int .i64 p] false true)])=[(1,Bk.vars [lst di r]),(1,Bk.vars [I (p:Int)])]from rfl];by_cases c3:a.any (upF p r)=true
     .rw[if_pos c3]at h0 h1;simp[c3]
      grind
     .rw[if_neg c3]at h0 h1;have c3':a.any (upF p r)=false:=by simpa using c3
      have ih:=FN hm hc hr K q (a++[r]) p aa (by simp[e]) h0 h1;have e2:((a++[r]).length:Int)=(a.length:Int)+1:=ac;rw[e2]at ih;simp(disch:=try exact ae)[c3',g2];trivial
theorem KX{c:Nat}:∀{m:LLQ},Gx c m=0->∀r∈m,r.length=c∧r.length<=12
 |[],_,r,hr=>by simp at hr
 | x::m,h,r,hr=>by
  simp only[Gx]at h;split at h
  .omega
  .split at h
   .omega
   .split at h
    .omega
    .rename_i a1 a2 _;rcases Zw.1 hr with rfl|hr
     .exact⟨aa,aa⟩
     .exact KX h r hr
theorem PX(b:Bool)(z:Int)(h:Hp):out (.tup [B b,I z]) (.tup [B b,I z]) h:=⟨h,by rfl⟩
def hfB(m:LLQ):Bool:=decide (tcB m=0)&&JN (-1) [] m
theorem On{m:LLQ}(hm:m.length<1000000)(hr:∀r∈m,r.length<1000000):CP Y F.lu [mat m] (.tup [B (hfB m),I (tcB m)]):=by
 refine BM ?_;simp only[lu];simp;refine cd (Rz hm hr) ?_ (by rfl);by_cases h:tcB m=0
 .have h12:¬12<m.length:=λg=>by grind[tcB]
  have hl:=h;simp only[tcB,if_neg h12]at hl;have hc:=KX hl
  have hcl:m≠[]->(nth [] m 0).length<1000000:=λe=>by
   grind[Xc,cn]
  have hfo:CP Y F.lj [mat m] (B (JN (-1) [] m)):=by
   refine BL ?_;simp only[lj];have l1:aQ (mat m)=some (I m.length):=rfl;simp[l1];by_cases e:m=[]
   .subst e;refine lo (FN (c:=0) hm aa ac _ [] [] (-1) aa rfl (λe h=>?_) (λe h=>?_))
    .simp
     simp_all
    .cases e
   .refine lo (FN hm (hcl e) (λr hr=>(hc r hr).1) _ m [] (-1) aa rfl (λe h=>?_) (λe h=>?_))
    .simp
     simp_all
    .simp
     simp_all
  simp[h];refine cd hfo ?_ (by rfl);have e:hfB m=JN (-1) [] m:=by simp[hfB,h]
  grind[PX]
 .simp[h];have e:hfB m=false:=by simp[hfB,h]
  grind[PX]
def GN(c:Int)(m:LLQ):Int:=if lcB c m≠0 then lcB c m else if hfB m=true then 0 else 7
theorem BI{c:Int}{m:LLQ}(hm:m.length<1000000)(hr:∀r∈m,r.length<1000000):CP Y F.ja [qO c m] (I (GN c m)):=by
 refine C6 ?_;simp only[ja,qO];simp;refine cd (H5 hm hr) ?_ (by rfl);by_cases h:lcB c m=0
 .simp[h];refine cd (On hm hr) ?_ (by rfl);by_cases h2:tcB m=0
  .by_cases h3:hfB m=true
   .simp[h2,h3]
    grind[aY,GN]
   .have h3':hfB m=false:=by simpa using h3
    simp[h2,h3']
    grind[aY,GN]
  .have h3':hfB m=false:=by simp[hfB,h2]
   simp[h2,h3']
   grind[aY,GN]
 .simp[h]
  grind[aY,GN]
def Bz(n:Int)(p:Mz):Hp:=[(1,.vars [I 0,nlV]),(1,.vars [I n,(acU 2).v p.length (p.map row)]),(acU 2).b p.length (p.map row)]
theorem VJ{m:Mz}{n:Int}(hm:m.length<1000)(hr:∀r∈m,r.length<1000000)(hz:∀r∈m,∀z∈r,-1000000000<=z∧z<=1000000000)(h0:Hp)(K:KL):∀(q p:Mz),m=p++q->K (.exit 0) [] (Bz n m) ->
  lp (iR (CX Y) (.ptr 0 1 0 2) (.ptr 1 1 0 2) (uZ m) (I m.length)) [] h0 [I p.length] (Bz n p) K
 | [],p,e,hK=>by
  simp only[Zp]at e;subst e;refine aj ?_;have hlt:¬((m.length:Int)<(m.length:Int)):=aa;simp only[iR];simp[hlt];exact hK
 | r::q,p,e,hK=>by
  refine aj ?_;have hlt:((p.length:Int)<(m.length:Int)):=by rw[e];simp;omega
  have hrm:r∈m:=by rw[e];simp
  have hpl:p.length<m.length:=aa;obtain⟨H,hH⟩:=nmQ (Bz n p);have i1:ixV H 1 (uZ m) (I p.length)=some (.dptr (m.map tM) p.length):=by rw[e];exact Qv p r q H
  have i2:ld1 H (.dptr (m.map tM) p.length)=some (lst sI r):=by rw[e];exact Qr p r q H
  rw[<-hH];simp only[iR];simp[hlt,i1,i2];refine cd (Sq (hz r hrm) (hr r hrm)) ?_;have f1:ld1 H (.ptr 1 1 1 2)=some ((acU 2).v p.length (p.map row)):=by rw[hH];simp[ld1,Bz,aw]
  have hli:dX 1 [nPQ] [(0,lst di r)] H=some ([row r],H):=by simp[dX,iP,kT,toD,norm,lst,row]
  simp[f1,hli];refine md (acU 2) (by_:=24) (k:=1) (cs:=[row r]) aa (by rw[hH];rfl) (by simp[acU]) (by rfl) rfl (by grind) aa (by simp[acU]) ?_;have hs:H.set (acU 2).s ((acU 2).b (p.length+1) (p.map row++[row r]))=[(1,.vars [I 0,nlV]),(1,.vars [I n,(acU 2).v p.length (p.map row)]),(acU 2).b (p.length+1) (p.map row++[row r])]:=by rw[hH];rfl
  have hst:st [(1,.vars [I 0,nlV]),(1,.vars [I n,(acU 2).v p.length (p.map row)]),(acU 2).b (p.length+1) (p.map row++[row r])] 1 (.ptr 1 1 1 2) ((acU 2).v (p.length+1) (p.map row++[row r]))=some (Bz n (p++[r])):=by
   simp[st,sto,aw,bY,okV,Bz,Acc.v,Acc.b]
  have ih:=VJ hm hr hz h0 K q (p++[r]) (by simp[e]) hK;have e2:((p++[r]).length:Int)=(p.length:Int)+1:=ac;rw[e2]at ih;rw[hs];simp only[Acc.v,Acc.b]at hst ⊢;simp(disch:=try exact ae)[hst]
  simp_all[dh,Bz]
theorem yK{n:Int}(hm:m.length<1000)(hr:∀r∈m,r.length<1000000)(hz:∀r∈m,∀z∈r,-1000000000<=z∧z<=1000000000):CP Y F.dp [uZ m,I n] (.tup [qO n m,I 0]):=by
 refine vP ?_;simp only[dp];have l1:aQ (uZ m)=some (I m.length):=rfl;simp[l1];refine lo (VJ hm hr hz _ _ m [] rfl ?_);have g1:ldA (Bz n m) 2 (.ptr 1 1 0 2)=some (.agg [I n,(acU 2).v m.length (m.map row)]):=by simp[ldA,Bz,aw]
 have okv:okV ((acU 2).v m.length (m.map row))=true:=by cases m<;>rfl
 have s1:st (Bz n m) 2 (.ptr 0 1 0 2) (.agg [I n,(acU 2).v m.length (m.map row)])=some [(1,.vars [I n,(acU 2).v m.length (m.map row)]),(1,.vars [I n,(acU 2).v m.length (m.map row)]),(acU 2).b m.length (m.map row)]:=by
  simp[st,sto,Bz,aw,bY,okv]
 have g2:ldA [(1,.vars [I n,(acU 2).v m.length (m.map row)]),(1,.vars [I n,(acU 2).v m.length (m.map row)]),(acU 2).b m.length (m.map row)] 2 (.ptr 0 1 0 2)=some (.agg [I n,(acU 2).v m.length (m.map row)]):=by simp[ldA,aw]
 show(bnd (ldA (Bz n m) 2 (.ptr 1 1 0 2)) λv7=>stD (Bz n m) 2 (.ptr 0 1 0 2) v7 λx h=>bnd (ldA h 2 (.ptr 0 1 0 2)) λv9=>out (.tup [qO n m,I 0]) (.tup [v9,.d (.int .i64 0)]) h)
 simp only[g1,bnd,stD,s1,g2];obtain⟨h',e1,_⟩:=nN (acU 2) (L:=m.length) (cells:=m.map row) (h:=[(1,.vars [I n,(acU 2).v m.length (m.map row)]),(1,.vars [I n,(acU 2).v m.length (m.map row)]),(acU 2).b m.length (m.map row)]) rfl (by simp[acU]);refine⟨h',?_⟩
 simp_all[cO,aT,qO,lst]
structure sZ(n:Nat)(m:Mz):Prop where
 n0:0<n
 n12:n<=12
 ml:m.length<=12
 rl:∀r∈m,r.length=n
 sm:∀r∈m,∀z∈r,-1000000000<=z∧z<=1000000000
theorem Qt(hB:Bd<=100000)(hl:GN n m=0)(ho:sZ n m)(hk:vg Bd f n m=some z)(hz:sZ n z):CP Y F.eM [qO n m] (.tup [qO n z,I 0]):=by
 refine vU ?_;simp only[eM,qO];simp;have hrl:∀r∈m,r.length<1000000:=λr hr=>by rw[ho.rl r hr];have:=ho.n12;omega
 have hml:=ho.ml;have hn:=ho.n12;refine cd (args:=[qO n m]) (BI aa hrl) ?_ (by rfl);have c1:=Fq (m:=m) ho.ml hrl (λr hr z hz=>by have:=ho.sm r hr z hz;omega);have c2:=BJ (m:=m) (n:=n) ho.n0 aa ho.rl aa hB hk;have c3:=yK (m:=z) (n:=n) (by grind[sZ.ml]) (λr hr=>by grind[sZ.rl]) hz.sm;simp[hl];refine cd c1 ?_ (by rfl);simp
 refine cd c2 ?_ (by rfl);simp;refine cd c3 ?_ (by rfl);have ok1:okV (mat z)=true:=rfl;simp[qO,ok1];exact⟨_,by rfl⟩
theorem Ql{y:Mz}(hB:Bd<=100000)(hl:GN n m=0)(ho:sZ n m)(hk:vg Bd f n m=some y)(hy:∀r∈y,r.length=n)(hyl:y.length<1000)(hk2:vg Bd f n y=some z)(hz:sZ n z):CP Y F.gI [qO n m] (.tup [qO n z,I 0]):=by
 refine yL ?_;simp only[gI,qO];simp;have hrl:∀r∈m,r.length<1000000:=λr hr=>by rw[ho.rl r hr];have:=ho.n12;omega
 have hml:=ho.ml;have hn:=ho.n12;refine cd (args:=[qO n m]) (BI aa hrl) ?_ (by rfl);have c1:=Fq (m:=m) ho.ml hrl (λr hr z hz=>by have:=ho.sm r hr z hz;omega);have c2:=BJ (m:=m) (n:=n) ho.n0 aa ho.rl aa hB hk;have c4:=BJ (m:=y) (n:=n) ho.n0 aa hy hyl hB hk2
 have c3:=yK (m:=z) (n:=n) (by grind[sZ.ml]) (λr hr=>by grind[sZ.rl]) hz.sm;simp[hl];refine cd c1 ?_ (by rfl);simp;refine cd c2 ?_ (by rfl);simp;refine cd c4 ?_ (by rfl);simp;refine cd c3 ?_ (by rfl);have ok1:okV (mat z)=true:=rfl;simp[qO,ok1];exact⟨_,by rfl⟩
def tpV(p:LiQ)(c w:Mz):V:=.agg [lst di p,mat c,mat w]
structure qC(p:LiQ)(c w:Mz):Prop where
 pr:pcB p=0
 lc:sZ p.length c
 lw:sZ p.length w
 ch:GN p.length c=0
 k1:∃B f,B<=100000∧vg B f p.length c=some w∧vg B f p.length w=some c
theorem Ro(x y:LiQ)(hx:x.length<1000000)(hy:y.length<1000000):CP Y F.eD [.d (row x),.d (row y)] (B (decide (x=y))):=by refine vK ?_;simp only[eD];simp;refine cd (args:=[lst di x,lst di y]) (Cz aa aa) ?_ (by rfl);simp
theorem TD(hm:m.length<1000000)(hm':m'.length<1000000)(h2:∀r∈m,r.length<1000000)(h3:∀r∈m',r.length<1000000):CP Y F.jd [mat m,mat m'] (B (decide (m=m'))):=by refine yn ?_;simp only[jd];simp;refine cd (XI (g:=F.eD) Ro hm hm' h2 h3) ?_ (by rfl);simp
theorem sZ.rl6(h:sZ n m):∀r∈m,r.length<1000000:=λr hr=>by rw[h.rl r hr];have:=h.n12;omega
theorem KS{p:LiQ}{c w w':Mz}(h:qC p c w)(h1:w'.length<1000000)(h2:∀r∈w',r.length<1000000):CP Y F.dF [tpV p c w'] (I (if w=w' then 0 else 14)):=by
 refine xN ?_;simp only[dF,tpV];have hn:=h.lc.n12;have hcl:=h.lc.ml;have hwl:=h.lw.ml;have a1:=mD (p:=p) aa;rw[h.pr]at a1;have a2:=BI (c:=p.length) (m:=c) aa h.lc.rl6;rw[h.ch]at a2;obtain⟨Bd,f,hB,k1,k2⟩:=h.k1;have a3:=Ql hB h.ch h.lc k1 h.lw.rl aa k2 h.lc;have a4:=Qt hB h.ch h.lc k1 h.lw
 have a5:CP Y F.kr [qO p.length c,qO p.length c] (B true):=by
  have:=Su (c:=p.length) (c':=p.length) (m:=c) (m':=c) aa aa h.lc.rl6 h.lc.rl6;simpa using this
 have a6:=TD (m:=w) (m':=w') aa h1 h.lw.rl6 h2;have l1:aQ (lst di p)=some (I p.length):=rfl;simp;refine cd a1 ?_;have ok1:∀m:Mz,okV (lst row m)=true:=λ_=>rfl
 simp only[qO,mat]at a2 a3 a4 a5 a6;simp[l1,ok1];refine cd a2 ?_ (by rfl);simp;refine cd a3 ?_ (by rfl);simp[ok1];refine cd a5 ?_ (by rfl);simp;refine cd a4 ?_ (by rfl);simp[ok1];refine cd (args:=[lst row w,lst row w']) a6 ?_ (by rfl);by_cases e:w=w'<;>simp[e]
theorem yl{p:LiQ}{c w:Mz}(h:qC p c w):CP Y F.dF [tpV p c w] (I 0):=by simpa using KS h (by have:=h.lw.ml;omega) h.lw.rl6
def tbB(n:Nat):Mz->Int
 |[]=>0
 |r::q=>if rcB r≠0 then rcB r else if r.length≠n then 5 else tbB n q
variable{p:LiQ}{c w:Mz}
theorem Ht{m:Mz}(hm:m.length<1000000)(hr:∀r∈m,r.length<1000000)(e:Nat)(h0:Hp)(K:KL):∀(q a:Mz),m=a++q->(tbB p.length q=0->K (.exit 0) [] [(e,.vars [lst di p,mat c,mat w])])->(tbB p.length q≠0->K .ret [I (tbB p.length q)] [(e,.vars [lst di p,mat c,mat w])]) ->
  lp (jO (CX Y) (.ptr 0 e 0 3) (mat m) (I m.length)) [] h0 [I a.length] [(e,.vars [lst di p,mat c,mat w])] K
 | [],a,e1,h1,h2=>by
  simp only[Zp]at e1;subst e1;refine aj ?_;have hlt:¬((m.length:Int)<(m.length:Int)):=aa;simp only[jO];simp[hlt];exact h1 rfl
 | r::q,a,e1,h1,h2=>by
  refine aj ?_;have hlt:((a.length:Int)<(m.length:Int)):=by rw[e1];simp;omega
  have hl:a.length<m.length:=aa;have hrm:r∈m:=by rw[e1];simp
  have i1:∀h:Hp,ixV h 1 (mat m) (I a.length)=some (.dptr (m.map row) a.length):=λh=>by simp_all
  have i2:∀h:Hp,ld1 h (.dptr (m.map row) a.length)=some (lst di r):=λh=>by
   rw[k8 row m _ hl];simp only[e1,Zl (Z8 _),Ze,Zh];rfl
  have l1:aQ (lst di r)=some (I r.length):=rfl;have l2:aQ (lst di p)=some (I p.length):=rfl;have g1:ld1 [(e,.vars [lst di p,mat c,mat w])] (.ptr 0 e 0 3)=some (lst di p):=by simp[ld1,aw]
  simp only[jO];simp[hlt,i1,i2];refine cd (PP (by grind)) ?_;simp only[tbB]at h1 h2;by_cases c1:rcB r=0
  .rw[if_neg (by simp[c1])]at h1 h2;by_cases c2:r.length=p.length
   .rw[if_neg (by simp[c2])]at h1 h2;have c2':(r.length:Int)=(p.length:Int):=aa;simp(disch:=try exact ae)[c1,l1,l2,g1,c2'];rw[dh];have ih:=Ht hm hr e h0 K q (a++[r]) (by grind) h1 h2;have e2:((a++[r]).length:Int)=(a.length:Int)+1:=ac
    simp_all
   .rw[if_pos c2]at h1 h2;have c2':¬(r.length:Int)=(p.length:Int):=aa;simp[c1,l1,l2,g1,c2']
    grind
  .rw[if_pos c1]at h1 h2;simp[c1]
   grind
theorem RA(h:qC p c w)(hm:m.length<1000000)(hr:∀r∈m,r.length<1000000):CP Y F.ib [tpV p c w,mat m] (I (tbB p.length m)):=by
 refine xM ?_;simp only[ib,tpV];simp;refine cd (args:=[tpV p c w]) (yl h) ?_ (by rfl);have l1:aQ (mat m)=some (I m.length):=rfl;simp[l1];refine lo (Ht hm hr 1 _ _ m [] rfl (λe=>?_) (λe=>?_))
 .simp
  simp_all
 .simp
def oG:LiQ->LiQ->Int
 |x::xs,y::ys=>x*y+oG xs ys
 |_,_=>0
def bd9(l:LiQ):Prop:=∀x∈l,-1000000000<=x∧x<=1000000000
theorem JZ:∀{x v:LiQ},bd9 x->bd9 v->(oG x v).natAbs<=1000000000000000000*x.length
 |[],v,_,_=>by simp[oG]
 |a::x,[],_,_=>by simp[oG]
 | a::x,b::v,hx,hv=>by
  have ih:=JZ (x:=x) (v:=v) (λy hy=>hx y (by grind)) (λy hy=>hv y (by grind));have h1:=hx a ac;have h2:=hv b ac
  have h3:(a*b).natAbs<=1000000000*1000000000:=by
   rw[Zf];exact Zr aa aa
  grind[oG]
theorem Hq{x v:LiQ}(hl:v.length=x.length)(hn:x.length<=64)(hx:bd9 x)(hv:bd9 v)(h0 h:Hp)(K:KL):∀(q qv a av:LiQ)(s:Int),x=a++q->v=av++qv->av.length=a.length->s.natAbs<=1000000000000000000*a.length ->
  K (.exit 2) [S (itoa (s+oG q qv))] h ->
  lp (jA (CX Y) (lst di v) (lst di x) (I x.length)) [] h0 [S (itoa s),I a.length] h K
 | [],qv,a,av,s,e1,e2,e3,hs,hK=>by
  simp only[Zp]at e1;subst e1;refine aj ?_;have hlt:¬((x.length:Int)<(x.length:Int)):=aa;simp only[jA];simp[hlt]
  grind[oG]
 | b::q,[],a,av,s,e1,e2,e3,hs,hK=>by
  grind
 | b::q,d::qv,a,av,s,e1,e2,e3,hs,hK=>by
  refine aj ?_;have hlt:((a.length:Int)<(x.length:Int)):=by rw[e1];simp;omega
  have hax:a.length<x.length:=aa;have hal:a.length<64:=Z3 hax hn;have i1:ixV h 1 (lst di x) (I a.length)=some (.dptr (x.map di) a.length):=by rw[e1];exact vh di a b q _ _
  have i2:ld1 h (.dptr (x.map di) a.length)=some (I b):=by
   rw[k8 di x _ aa];simp only[e1,Zl (Z8 _),Ze,Zh];rfl
  have i3:ixV h 1 (lst di v) (I a.length)=some (.dptr (v.map di) a.length):=by rw[e2,<-e3];exact vh di av d qv _ _
  have i4:ld1 h (.dptr (v.map di) a.length)=some (I d):=by
   rw[k8 di v _ aa];simp only[e2,<-e3,Zl (Z8 _),Ze,Zh];rfl
  have hb:=hx b (by grind);have hd:=hv d (by grind);have n18:∀z:Int,z.natAbs<10^30->ndg z.natAbs<400000:=λz hz=>Y6 (gG hz af) af
  have h3:(b*d).natAbs<=1000000000*1000000000:=by
   rw[Zf];exact Zr aa aa
  have hp:(10:Nat)^30=1000000000000000000000000000000:=af;simp only[jA];simp[hlt,i1,i2];refine cd (kY (z:=b) aa aa) ?_;simp[i3,i4];refine cd (kY (z:=d) aa aa) ?_;simp;refine cd (pF (z:=b) (w:=d) (n18 _ aa) (n18 _ aa)) ?_;simp
  refine cd (zf (z:=s) (w:=b*d) (by have:=n18 s aa;omega) (by have:=n18 (b*d) aa;omega)) ?_;have h4:=Xe s (b*d)
  have ih:=Hq hl hn hx hv h0 h K q qv (a++[b]) (av++[d]) (s+b*d) (by grind) (by grind) (by grind) (by grind) (by
   have:s+b*d+oG q qv=s+oG (b::q) (d::qv):=by simp only[oG];omega
   grind)
  have e4:((a++[b]).length:Int)=(a.length:Int)+1:=ac;rw[e4]at ih;simp(disch:=try exact ae)
  grind[dh,lo]
def aW(w:Mz)(x:LiQ):LiQ:=w.map λv=>oG x v
theorem Hr{x:LiQ}{w:Mz}(hw:w.length<1000)(hl:∀v∈w,v.length=x.length)(hn:x.length<=64)(hx:bd9 x)(hv:∀v∈w,bd9 v)(b0:Nat×Bk)(h0:Hp)(K:KL):∀(q a:Mz),w=a++q ->
  K (.exit 0) [(acU 1).v w.length ((aW w x).map sI)] [b0,(acU 1).b w.length ((aW w x).map sI)] ->
  lp (jB (CX Y) (lst di x) (mat w) (I w.length)) [] h0 [(acU 1).v a.length ((aW a x).map sI),I a.length] [b0,(acU 1).b a.length ((aW a x).map sI)] K
 | [],a,e,hK=>by
  simp only[Zp]at e;subst e;refine aj ?_;have hlt:¬((w.length:Int)<(w.length:Int)):=aa;simp only[jB];simp[hlt];exact hK
 | v::q,a,e,hK=>by
  refine aj ?_;have hlt:((a.length:Int)<(w.length:Int)):=by rw[e];simp;omega
  have hal:a.length<w.length:=aa;have hvm:v∈w:=by rw[e];simp
  have i1:∀h:Hp,ixV h 1 (mat w) (I a.length)=some (.dptr (w.map row) a.length):=λh=>by simp_all
  have i2:∀h:Hp,ld1 h (.dptr (w.map row) a.length)=some (lst di v):=λh=>by
   rw[k8 row w _ hal];simp only[e,Zl (Z8 _),Ze,Zh];rfl
  have l1:aQ (lst di x)=some (I x.length):=rfl;obtain⟨H,hH⟩:∃H:Hp,H=[b0,(acU 1).b a.length ((aW a x).map sI)]:=⟨_,rfl⟩;rw[<-hH];simp only[jB];simp[hlt,i1,i2,l1]
  have e48:V.d (D.str [48])=S (itoa 0):=by
   have:itoa 0=[48]:=aJ;rw[this]
  rw[e48];refine lo (Hq (hl v hvm) hn hx (hv v hvm) _ H _ x v [] [] 0 rfl rfl rfl ac ?_);have hli:dX 1 [.str []] [(0,S (itoa (oG x v)))] H=some ([sI (oG x v)],H):=by simp[dX,iP,kT,toD,norm,sI]
  simp[hli];have ez:aW (a++[v]) x=aW a x++[oG x v]:=by simp[aW]
  refine md (acU 1) (by_:=16) (k:=1) (cs:=[sI (oG x v)]) aa (by rw[hH];rfl) (by simp[acU,aW]) (by rfl) rfl (by grind) aa (by simp[acU]) ?_;have hs:H.set (acU 1).s ((acU 1).b (a.length+1) ((aW a x).map sI++[sI (oG x v)]))=[b0,(acU 1).b (a.length+1) ((aW a x).map sI++[sI (oG x v)])]:=by rw[hH];rfl
  rw[hs];have ih:=Hr hw hl hn hx hv b0 h0 K q (a++[v]) (by simp[e]) hK;have e4:((a++[v]).length:Int)=(a.length:Int)+1:=ac;rw[e4,ez,X6,List.length_append]at ih;simp(disch:=try exact ae)
  simp_all[dh]
theorem Ry(h:qC p c w){x:LiQ}(hl:x.length=p.length)(hx:bd9 x):CP Y F.gB [tpV p c w,lst di x] (lst sI (aW w x)):=by
 refine wD ?_;simp only[gB,tpV];have l1:aQ (mat w)=some (I w.length):=rfl;have hn:=h.lc.n12;have hwl:=h.lw.ml;simp[l1];refine lo (Hr aa (λv hv=>by rw[h.lw.rl v hv,hl]) aa hx (λv hv=>h.lw.sm v hv) _ _ _ w [] rfl ?_);simp
 obtain⟨h',e1,_⟩:=nN (acU 1) (L:=w.length) (cells:=(aW w x).map sI) (h:=[(1,.vars [lst di p,mat c,mat w]),(acU 1).b w.length ((aW w x).map sI)]) rfl (by simp[acU,aW]);refine⟨h',?_⟩
 grind[lst,aW]
theorem Iz{l:LiQ}(hn:l.length<1000)(hz:bd9 l)(b0:Nat×Bk)(h0:Hp)(K:KL):∀(q a:LiQ),l=a++q->K (.exit 0) [(acU 1).v l.length (l.map di)] [b0,(acU 1).b l.length (l.map di)] ->
  lp (jC (CX Y) (lst sI l) (I l.length)) [] h0 [(acU 1).v a.length (a.map di),I a.length] [b0,(acU 1).b a.length (a.map di)] K
 | [],a,e,hK=>by
  simp only[Zp]at e;subst e;refine aj ?_;have hlt:¬((l.length:Int)<(l.length:Int)):=aa;simp only[jC];simp[hlt];exact hK
 | z::q,a,e,hK=>by
  refine aj ?_;have hlt:((a.length:Int)<(l.length:Int)):=by rw[e];simp;omega
  have hal:a.length<l.length:=aa;have hzb:=hz z (by grind);have i1:∀h:Hp,ixV h 1 (lst sI l) (I a.length)=some (.dptr (l.map sI) a.length):=λh=>by simp_all
  have i2:∀h:Hp,ld1 h (.dptr (l.map sI) a.length)=some (S (itoa z)):=λh=>by
   grind[k8,sI]
  obtain⟨H,hH⟩:∃H:Hp,H=[b0,(acU 1).b a.length (a.map di)]:=⟨_,rfl⟩;rw[<-hH];have g1:¬(z>1000000000):=aa;have g2:¬(z < -1000000000):=aa;have hli:dX 1 [.int .i64 0] [(0,I z)] H=some ([di z],H):=by simp[dX,iP,kT,toD,norm];rfl
  simp only[jC];simp[hlt,i1,i2];refine cd (Ba (z:=z) aa) ?_;simp[g1,g2,hli];refine md (acU 1) (by_:=8) (k:=1) (cs:=[di z]) aa (by rw[hH];rfl) (by simp[acU]) (by rfl) rfl (by grind) aa (by simp[acU]) ?_;have hs:H.set (acU 1).s ((acU 1).b (a.length+1) (a.map di++[di z]))=[b0,(acU 1).b (a.length+1) (a.map di++[di z])]:=by rw[hH];rfl
  rw[hs];have ih:=Iz hn hz b0 h0 K q (a++[z]) (by simp[e]) hK;have e4:((a++[z]).length:Int)=(a.length:Int)+1:=ac;rw[e4,X6,List.length_append]at ih;simp(disch:=try exact ae)
  simp_all[dh]
theorem Cc(h:qC p c w){x:LiQ}(hl:x.length=p.length)(hx:bd9 x)(hr:rcB x=0)(hz:bd9 (aW w x)):CP Y F.dO [tpV p c w,lst di x] (.tup [lst di (aW w x),I 0]):=by
 refine wE ?_;simp only[dO,tpV];have hn:=h.lc.n12;have hwl:=h.lw.ml;have hli:dX 1 [nPQ] [(0,lst di x)] [(1,Bk.vars [lst di p,mat c,mat w]),(0,Bk.none)]=some ([row x],[(1,Bk.vars [lst di p,mat c,mat w]),(0,Bk.none)]):=by simp[dX,iP,kT,toD,norm,lst,row]
 have tb:tbB p.length [x]=0:=by simp[tbB,hr,hl]
 have b1:=RA h (m:=[x]) ac (by grind);rw[tb]at b1;simp[hli];refine cd (args:=[tpV p c w,mat [x]]) b1 ?_ (by rfl);simp;refine cd (args:=[tpV p c w,lst di x]) (Ry h hl hx) ?_ (by rfl);have l1:aQ (lst sI (aW w x))=some (I (aW w x).length):=rfl;simp[l1];refine lo (Iz (by grind[aW]) hz _ _ _ (aW w x) [] rfl ?_);simp
 obtain⟨h',e1,_⟩:=nN (acU 1) (L:=(aW w x).length) (cells:=(aW w x).map di) (h:=[(1,.vars [lst di p,mat c,mat w]),(acU 1).b (aW w x).length ((aW w x).map di)]) rfl (by simp[acU]);refine⟨h',?_⟩;simp only[cO,aT,e1,norm];rfl
abbrev Lk:=Int×Int
structure Ad where
 p:LiQ
 ch:List LLQ
 lk:List (List Lk)
 cd:List LLQ
 w:Q
variable{a:Ad}
variable{b:Nat}{c:UInt8}{kb:Nat}
theorem Fo(z:Int):de z 1=(z,1):=by simp[de,kG]
theorem px{n:Int}(hd:d≠0)(h1 : -9223372036854775808<n)(h2:n<9223372036854775808)(h3 : -9223372036854775808<d)(h4:d<9223372036854775808):CP Y F.aV [I n,I d] (.agg (qT (de n d))):=by refine xO ?_;have fo:=uz hd h1 h2 h3 h4;simp only[qT]at fo;simp only[aV];simp;refine cd fo ?_;simp;exact mf rfl rfl
theorem D6{s s' e es by_ n k L:Nat}{cells cs:LdQ}{b0:Bk}{h:Hp}{y:V}{q:kkQ}{u:PU q}(hk:0<k)(hs':h[s']?=some (e,.data n cells true false))(hs:h[s]?=some (es,b0))(hc:cells.length=L*n)
  (hcs:cs.length=k*n) (hy:cellsOf h y=some (k,cs)) (hyn:∀t,y≠.d (.str t)) (hb:(L+k)*by_<=140737488355328)
  (hq:q (.ref s (es+1) 0 (L+k) (L+k) (cells++cs).length) (h.set s (es+1,.data n (cells++cs) false false))):rh (apV false s n by_ (.ref s' e 0 L L cells.length) y h) q u:=by
 have e1:apV false s n by_ (.ref s' e 0 L L cells.length) y h q=apC false s n by_ (.ref s' e 0 L L cells.length) k cs h q:=by
  unfold apV;split
  .trivial
  .grind
 show apV false s n by_ (.ref s' e 0 L L cells.length) y h q
 rw[e1];unfold apC;rw[if_neg aa];have g:aw h s' e=.data n cells true false:=by simp[aw,hs']
 simp only[g,true_and,Zj];rw[if_pos ⟨Z8 _,aa,hcs⟩,if_neg aa,if_pos hb];simp only[if_true,new,hs,Yn];rw[Zz aa]
 grind
def gtB(w:Mz):Int:=if w.length≠2 then 5 else if nth 0 (nth [] w 0) 0=0 then 26 else 0
variable{p:LiQ}{c w:Mz}
theorem JO(h:qC p c w):CP Y F.ky [tpV p c w] (I (gtB w)):=by
 refine C9 ?_;simp only[ky,tpV];simp;refine cd (args:=[tpV p c w]) (yl h) ?_ (by rfl);have l1:aQ (mat w)=some (I w.length):=rfl;by_cases h2:w.length=2
 .have i1:∀h:Hp,ixV h 1 (mat w) (.d (.int .i64 0))=some (.dptr (w.map row) 0):=λh=>d8 row w h rfl aa
  have i2:∀h:Hp,ld1 h (.dptr (w.map row) 0)=some (lst di (nth [] w 0)):=λh=>eH row [] w h aa
  have hr:(nth [] w 0).length=p.length:=h.lw.rl _ (by rw[cn _ _ _ aa];simp);have hp:=h.lw.n0;have i3:∀h:Hp,ixV h 1 (lst di (nth [] w 0)) (.d (.int .i64 0))=some (.dptr ((nth [] w 0).map di) 0):=λh=>d8 di _ h rfl aa
  have i4:∀h:Hp,ld1 h (.dptr ((nth [] w 0).map di) 0)=some (I (nth 0 (nth [] w 0) 0)):=λh=>eH di 0 _ h aa
  have h2':(w.length:Int)=2:=aa;by_cases h0:nth 0 (nth [] w 0) 0=0
  .simp[l1,h2',i1,i2,i3,i4,h0]
   grind[aY,gtB]
  .simp[l1,h2',i1,i2,i3,i4,h0]
   grind[aY,gtB]
 .have h2':¬(w.length:Int)=2:=aa;simp[l1,h2']
  grind[aY,gtB]
theorem ME(h0:0<r.length)(hn:r.length<1000000):CP Y F.iD [lst di r] (lst di r):=by
 refine Ag ?_;simp only[iD];have hli:dX 0 [.int .i64 0] [] [(0,Bk.none),(0,Bk.none)]=some ([],[(0,Bk.none),(0,Bk.none)]):=rfl;simp[hli];refine D6 (s:=1) (s':=0) (e:=1) (es:=0) (by_:=8) (n:=1) (L:=0) (k:=r.length) (cells:=[]) (cs:=r.map di) h0 rfl rfl rfl ac rfl (by intro t ht;cases ht) aa ?_
 have sn:=xL ⟨1,0,1,.none⟩ (L:=r.length) (cells:=r.map di) (h:=[(1,Bk.data 1 [] true false),(Acc.b ⟨1,0,1,.none⟩ r.length (r.map di))]) rfl ac;obtain⟨m,hm⟩:∃m,r.length=m+1:=⟨r.length-1,aa⟩
 simp_all[lst]
theorem Ow(h:qC p c w)(hg:gtB w=0):CP Y F.fS [tpV p c w] (.tup [.agg [I (nth 0 (nth [] w 0) 0),lst di (nth [] w 0),lst di (nth [] w 1)],I 0]):=by
 refine sU ?_;simp only[fS,tpV];simp;have a1:=JO h;rw[hg]at a1
 have h2:w.length=2:=by
  apply Classical.byContradiction;intro e;simp[gtB,e]at hg
 refine cd (args:=[tpV p c w]) a1 ?_ (by rfl);have i1:∀h:Hp,ixV h 1 (mat w) (.d (.int .i64 0))=some (.dptr (w.map row) 0):=λh=>d8 row w h rfl aa
 have i2:∀h:Hp,ld1 h (.dptr (w.map row) 0)=some (lst di (nth [] w 0)):=λh=>eH row [] w h aa
 have j1:∀h:Hp,ixV h 1 (mat w) (.d (.int .i64 1))=some (.dptr (w.map row) 1):=λh=>d8 row w h rfl aa
 have j2:∀h:Hp,ld1 h (.dptr (w.map row) 1)=some (lst di (nth [] w 1)):=λh=>eH row [] w h aa
 have hr:(nth [] w 0).length=p.length:=h.lw.rl _ (by rw[cn _ _ _ aa];simp);have hr1:(nth [] w 1).length=p.length:=h.lw.rl _ (by rw[cn _ _ _ aa];simp);have hp:=h.lw.n0;have hn:=h.lc.n12;have i3:∀h:Hp,ixV h 1 (lst di (nth [] w 0)) (.d (.int .i64 0))=some (.dptr ((nth [] w 0).map di) 0):=λh=>d8 di _ h rfl aa
 have i4:∀h:Hp,ld1 h (.dptr ((nth [] w 0).map di) 0)=some (I (nth 0 (nth [] w 0) 0)):=λh=>eH di 0 _ h aa
 simp[i1,i2,i3,i4];refine cd (ME (r:=nth [] w 0) aa aa) ?_;simp[j1,j2];refine cd (ME (r:=nth [] w 1) aa aa) ?_;have ok1:∀m:LiQ,okV (lst di m)=true:=λ_=>rfl
 simp[ok1];exact⟨_,rfl⟩
structure Di(p:LiQ)(w:Mz)(x:LiQ):Prop where
 l:x.length=p.length
 b:bd9 x
 r:rcB x=0
 t:bd9 (aW w x)
def tpD(w:Mz)(l:Mz):LdQ:=l.map λx=>row (aW w x)
theorem Pg(w l:Mz):(tpD w l).length=l.length:=by simp[tpD]
theorem aag(w a:Mz)(x:LiQ):tpD w (a++[x])=tpD w a++[row (aW w x)]:=by simp[tpD]
theorem Pk(h:qC p c w){l:Mz}(hl:l.length<1000)(ho:∀x∈l,Di p w x)(b1:Nat×Bk)(h0:Hp)(K:KL):∀(q a:Mz),l=a++q ->
  K (.exit 1) [(acU 2).v l.length (tpD w l)] [(1,.vars [lst di p,mat c,mat w]),b1,(acU 2).b l.length (tpD w l)] ->
  lp (jN (CX Y) (.ptr 0 1 0 3) (mat l) (I l.length)) [] h0 [(acU 2).v a.length (tpD w a),I a.length] [(1,.vars [lst di p,mat c,mat w]),b1,(acU 2).b a.length (tpD w a)] K
 | [],a,e,hK=>by
  simp only[Zp]at e;subst e;refine aj ?_;have hlt:¬((l.length:Int)<(l.length:Int)):=aa;simp only[jN];simp[hlt];exact hK
 | x::q,a,e,hK=>by
  refine aj ?_;have hlt:((a.length:Int)<(l.length:Int)):=by rw[e];simp;omega
  have hal:a.length<l.length:=aa;have hx:=ho x (by grind);have i1:∀h:Hp,ixV h 1 (mat l) (I a.length)=some (.dptr (l.map row) a.length):=λh=>by simp_all
  have i2:∀h:Hp,ld1 h (.dptr (l.map row) a.length)=some (lst di x):=λh=>by
   rw[k8 row l _ hal];simp only[e,Zl (Z8 _),Ze,Zh];rfl
  obtain⟨H,hH⟩:∃H:Hp,H=[(1,.vars [lst di p,mat c,mat w]),b1,(acU 2).b a.length (tpD w a)]:=⟨_,rfl⟩;have g1:lh H 0 1=.vars [lst di p,mat c,mat w]:=by rw[hH];rfl
  have tl:(aW w x).length<1000000:=by simp only[aW,List.length_map];have:=h.lw.ml;omega
  rw[<-hH];have hli:dX 1 [nPQ] [(0,lst di (aW w x))] H=some ([row (aW w x)],H):=by simp[dX,iP,kT,toD,norm,lst,row]
  simp only[jN];simp[hlt,i1,i2,g1];refine cd (args:=[tpV p c w,lst di x]) (Cc h hx.l hx.b hx.r hx.t) ?_ (by rfl);simp[hli];refine md (acU 2) (by_:=24) (k:=1) (cs:=[row (aW w x)]) aa (by rw[hH];rfl) (by simp[acU,Pg]) (by rfl) rfl (by grind) aa (by simp[acU]) ?_
  have hs:H.set (acU 2).s ((acU 2).b (a.length+1) (tpD w a++[row (aW w x)]))=[(1,.vars [lst di p,mat c,mat w]),b1,(acU 2).b (a.length+1) (tpD w a++[row (aW w x)])]:=by rw[hH];rfl
  rw[hs];have ih:=Pk h hl ho b1 h0 K q (a++[x]) (by simp[e]) hK;have e4:((a++[x]).length:Int)=(a.length:Int)+1:=ac;rw[e4,aag,List.length_append]at ih;simp(disch:=try exact ae)
  simp_all[dh]
theorem IP(h:qC p c w)(hg:gtB w=0)(hl:l.length<=60)(ho:∀x∈l,Di p w x)(hm:mzB p l=0):CP Y F.bh [tpV p c w,mat l] (.tup [mat (l.map (aW w)),I (nth 0 (nth [] w 0) 0),I 0]):=by
 refine kJ ?_;simp only[bh,tpV];simp;refine cd (args:=[tpV p c w]) (Ow h hg) ?_ (by rfl);have l1:aQ (mat l)=some (I l.length):=rfl;have g60:¬((l.length:Int)>60):=aa;have ok1:∀m:LiQ,okV (lst di m)=true:=λ_=>rfl
 have hn:=h.lc.n12;have a2:=wV (p:=p) (m:=l) aa aa;rw[hm]at a2;simp[l1,g60,ok1];refine cd a2 ?_ (by rfl);simp[l1];refine lo (Pk h aa ho _ _ _ l [] rfl ?_);simp
 obtain⟨h',e1,_⟩:=nN (acU 2) (L:=l.length) (cells:=tpD w l) (h:=[(1,.vars [lst di p,mat c,mat w]),(1,.vars [I (nth 0 (nth [] w 0) 0),lst di (nth [] w 0),lst di (nth [] w 1)]),(acU 2).b l.length (tpD w l)]) rfl (by simp[acU,Pg]);refine⟨h',?_⟩
 simp_all[cO,aT,lst,tpD]
end Go.Vm
