/- Lemmas. -/
import Derived.Test.YthjogmhfdpaaaabGreatDoorQWsY
set_option linter.unusedVariables false
set_option linter.unusedSimpArgs false
open Option renaming some->Wf,none->Vc
open Bool renaming true->Th,false->SM
open Go renaming IntKind->iK
open List renaming replicate->So,length->RW
namespace Go.Vm
open Go Go.Am Go.Big
variable{α β:Type}{j s i a f d:Nat}{x o:Nat×Bk}{Pc:ax}{cs:bq}{ts:List (Int×Int)}
def sI(z:Int):D:=.str (itoa z)
theorem af5(P M Q:List α){x:α}(hj:j<RW M):(P++M++Q).take (RW P+j)++[x]++(P++M++Q).drop (RW P+j+1)=P++M.set j x++Q:=by
 obtain⟨a,y,c,rfl,rfl⟩:∃a y c,M=a++y::c∧j=RW a:=⟨M.take j,M[j],M.drop (j+1),ac,ae⟩
 rw [show P++(a++y::c)++Q=((P++a)++[y])++(c++Q) by simp,show RW P+RW a+1=RW ((P++a)++[y]) by grind,List.drop_left,
  show((P++a)++[y])++(c++Q)=(P++a)++(y::(c++Q)) by simp,show RW P+RW a=RW (P++a) by simp,W5]
 simp
structure af where
 s:Nat
 e:Nat
 pre:bF
 post:bF
 ex:Bool
 cap:Nat
 r:aw
variable{l m' l':List af}
def af.z:af:=⟨0,0,[],[],false,0,[]⟩
def af.w(R:af)(r:aw):af:={R with r:=r}
def af.tot(R:af):Nat:=RW R.pre+RW R.r+RW R.post
def af.v(R:af):V:=.ref R.s R.e (RW R.pre) (RW R.r) R.cap R.tot
def af.p(R:af)(j:Nat):V:=.ptr R.s R.e (RW R.pre+j) R.tot
def af.k(R:af):Nat×Bk:=(R.e,.data 1 (R.pre++R.r.map sI++R.post) R.ex SM)
variable{h:Hp}{R:af}
theorem af.get(hR:h[R.s]?=Wf R.k):aH h R.s R.e=.data 1 (R.pre++R.r.map sI++R.post) R.ex SM:=by grind[aH,k]
theorem af.tl(R:af):R.tot=RW (R.pre++R.r.map sI++R.post):=by grind[tot]
theorem Ru(R:af):bh R.v=Wf (I (RW R.r)):=rfl
theorem C3(hR:h[R.s]?=Wf R.k)(hj:j<RW R.r):bC h 1 R.v (I j)=Wf (R.p j):=by simp only[af.v,bC,af.get hR];rw[ip ⟨R.tl,aa,aa⟩];simp[af.p]
theorem FW(hR:h[R.s]?=Wf R.k)(hj:j<RW R.r):ld1 h (R.p j)=Wf (S (itoa (nth 0 R.r j))):=by
 simp only[af.p,ld1,af.get hR];rw[ip R.tl]
 have:(R.pre++R.r.map sI++R.post)[RW R.pre+j]?=Wf (sI (nth 0 R.r j)):=by
  rw[List.append_assoc,List.getElem?_append_right aa,List.getElem?_append_left ae];simp[gN _ _ _ hj,List.getElem?_eq_getElem hj]
 rw[this];rfl
theorem KJ(hR:h[R.s]?=Wf R.k)(hj:j<RW R.r)(z:Int):st h 1 (R.p j) (S (itoa z))=Wf (h.set R.s (R.w (R.r.set j z)).k):=by simp only[af.p,st,iT,jk,af.get hR,d8,dX,norm];rw[ip ⟨trivial,R.tl,ae⟩];simp only[bP,af.k,af.w];congr 4;have:=af5 R.pre (R.r.map sI) R.post (x:=sI z) (j:=j) ae;rw[show RW R.pre+j + [D.str (itoa z)].length=RW R.pre+j+1 by simp];rw[Wx];exact this
theorem af.set_get{R':af}(hR:h[R.s]?=Wf R.k)(hs:R'.s=R.s):(h.set R.s R'.k)[R'.s]?=Wf R'.k:=by rw[hs,List.getElem?_set_self (List.getElem?_eq_some_iff.1 hR).1]
theorem af.set_ne{T:af}(hT:h[T.s]?=Wf T.k)(hs:s≠T.s):(h.set s x)[T.s]?=Wf T.k:=by grind
theorem Cc{h:Hp}{b:Nat}(hu:(h.all λx=>cj b x.2)=Th)(hx:cj b x.2=Th):((h.set s x).all λx=>cj b x.2)=Th:=by grind
theorem af.u(R:af)(b:Nat):cj b R.k.2=Th:=rfl
def lF(B:Nat)(l:aw):Prop:=∀x∈l,x.natAbs<10^B
theorem Ex{B:Nat}{l:aw}(h:lF B l)(j:Nat):(nth 0 l j).natAbs<10^B:=by
 by_cases hj:j<RW l
 .rw[gN _ _ _ hj];exact h _ (X2 hj)
 .have:nth 0 l j=0:=by simp[nth,List.getElem?_eq_none (by omega:RW l<=j)]
  grind
theorem xe{B:Nat}(hB:B<=100000){x:Int}(h:x.natAbs<10^B):ay x.natAbs<=100001:=
 Z1 (eC (d:=B+1) (Z0 h (Z2 am (Nat.le_succ B))) aa) aa
theorem KO(k:Int)(a b:aw)(h:RW a=RW b):RW (jm k a b)=RW a:=by simp[jm,h]
section
variable{R T:af}{h:Hp}{k:Int}{B:Nat}
theorem U2(hB:B<=100000)(hT:h[T.s]?=Wf T.k)(hR:h[R.s]?=Wf R.k)(MT:R.s≠T.s)(hk:ay k.natAbs<=100002)(bT:lF B T.r)(hl:RW R.r=RW T.r)(hL:RW R.r<1000000)(b:Nat)(h0:Hp)(hh:RW h0=RW h)(K:KL) :
  ∀(rq rp:aw)(tp tq:aw),tp++tq=T.r->RW rp=RW tp->RW rq=RW tq->lF B rq->RW rp+RW rq=RW R.r ->
  K (.exit 0) [] (h.set R.s (R.w (rp++jm k rq tq)).k) ->
  lp (HE DA b R.v (S (itoa k)) T.v (I (RW T.r))) [] h0 [I (RW rp)] (h.set R.s (R.w (rp++rq)).k) K
 | [],rp,tp,tq,ht,h1,h2,bR,hn,hK=>by
  apply aL;have PJ:¬((RW rp:Int)<(RW T.r:Int)):=by simp at hn;omega
  have:tq=[]:=Zn aa
  simp_all[HE,jm]
 |x::rq,rp,tp,[],ht,h1,h2,bR,hn,hK=>by simp at h2
 | x::rq,rp,tp,y::tq,ht,h1,h2,bR,hn,hK=>by
  apply aL;have PJ:((RW rp:Int)<(RW T.r:Int)):=by simp at hn;omega
  have⟨H,hH⟩:∃H,H=h.set R.s (R.w (rp++x::rq)).k:=⟨_,rfl⟩;have gR:H[R.s]?=Wf (R.w (rp++x::rq)).k:=by rw[hH];exact af.set_get hR rfl
  have gT:H[T.s]?=Wf T.k:=by rw[hH];exact af.set_ne hT MT
  have vR:R.v=(R.w (rp++x::rq)).v:=by simp[af.v,af.w,af.tot]at hn ⊢;omega
  have jl:RW rp<RW T.r:=by simp at hn;omega
  have jr:RW rp<(R.w (rp++x::rq)).r.length:=by simp[af.w]
  have nT:nth 0 T.r (RW rp)=y:=by rw[<-ht,h1];simp
  have nR:nth 0 (R.w (rp++x::rq)).r (RW rp)=x:=by simp[af.w]
  have i1:=C3 gT jl;have i2:=FW gT jl;have i3:=C3 gR jr;have i4:=FW gR jr;rw[nT]at i2;rw[nR]at i4;have i5:=KJ gR jr (x-k*y);have bx:ay x.natAbs<=100001:=xe hB (bR x ac);have Nd:ay y.natAbs<=100001:=xe hB (bT y ae);have bm:=ub (z:=k) (w:=y);rw[<-hH,vR];simp only[HE];simp[PJ,i1,i2,i3,i4]
  refine cd (xj (z:=k) (w:=y) aa aa) ?_;simp;refine cd (aci (z:=x) (w:=k*y) aa aa) ?_;simp(disch:=omega) [i3,i5];rw[x8 0 h0 _ ae,<-vR];apply lo
  have e1:H.set (R.w (rp++x::rq)).s ((R.w (rp++x::rq)).w ((R.w (rp++x::rq)).r.set (RW rp) (x-k*y))).k=h.set R.s (R.w ((rp++[x-k*y])++rq)).k:=by
   rw[hH];simp[af.w]
  rw[e1];have ih:=U2 hB hT hR MT hk bT hl hL b h0 hh K rq (rp++[x-k*y]) (tp++[y]) tq ae ae ae (λz hz=>bR z ae) ae (by simp_all[jm])
  grind
theorem TQ(hR:h[R.s]?=Wf R.k)(hB:B<=100000)(hL:RW R.r<1000000)(b:Nat)(h0:Hp)(hh:RW h0=RW h)(K:KL) :
  ∀(rq rp:aw),lF B rq->RW rp+RW rq=RW R.r ->
  K (.exit 0) [] (h.set R.s (R.w (rp++rq.map (- ·))).k) ->
  lp (HD DA b R.v R.v (I (RW R.r))) [] h0 [I (RW rp)] (h.set R.s (R.w (rp++rq)).k) K
 | [],rp,bR,hn,hK=>by
  apply aL;have PJ:¬((RW rp:Int)<(RW R.r:Int)):=by simp at hn;omega
  simp_all[HD]
 | x::rq,rp,bR,hn,hK=>by
  apply aL;have PJ:((RW rp:Int)<(RW R.r:Int)):=by simp at hn;omega
  have⟨H,hH⟩:∃H,H=h.set R.s (R.w (rp++x::rq)).k:=⟨_,rfl⟩;have gR:H[R.s]?=Wf (R.w (rp++x::rq)).k:=by rw[hH];exact af.set_get hR rfl
  have vR:R.v=(R.w (rp++x::rq)).v:=by simp[af.v,af.w,af.tot]at hn ⊢;omega
  have jr:RW rp<(R.w (rp++x::rq)).r.length:=by simp[af.w]
  have nR:nth 0 (R.w (rp++x::rq)).r (RW rp)=x:=by simp[af.w]
  have i3:=C3 gR jr;have i4:=FW gR jr;rw[nR]at i4;have i5:=KJ gR jr (-x);have bx:ay x.natAbs<=100001:=xe hB (bR x ac);rw[<-hH,vR];simp only[HD];simp[PJ,i3,i4];refine cd (Do (z:=x) aa) ?_;simp(disch:=omega) [i3,i5];rw[x8 0 h0 _ ae,<-vR];apply lo
  have e1:H.set (R.w (rp++x::rq)).s ((R.w (rp++x::rq)).w ((R.w (rp++x::rq)).r.set (RW rp) (-x))).k=h.set R.s (R.w ((rp++[-x])++rq)).k:=by
   rw[hH];simp[af.w]
  rw[e1];have ih:=TQ hR hB hL b h0 hh K rq (rp++[-x]) (λz hz=>bR z ae) ae ae
  simp_all
theorem agE(a b:aw)(h:RW a=RW b):jm 0 a b=a:=by
 induction a generalizing b with
 |nil=>rfl
 | cons x a ih=>
  cases b with
  |nil=>simp at h
  | cons y b=>
   simp_all[jm]
theorem af.set_same(hR:h[R.s]?=Wf R.k):h.set R.s (R.w R.r).k=h:=by
 apply Ye;intro i;by_cases hi:R.s=i
 .subst hi;rw[List.getElem?_set_self (List.getElem?_eq_some_iff.1 hR).1,hR];rfl
 .rw[List.getElem?_set_ne hi]
theorem UI(hB:B<=100000)(hT:h[T.s]?=Wf T.k)(hR:h[R.s]?=Wf R.k)(MT:R.s≠T.s)(hk:ay k.natAbs<=100002)(bT:lF B T.r)(bR:lF B R.r)(hl:RW R.r=RW T.r)(hL:RW R.r<1000000)
  (hu:(h.all λx=>cj (RW h) x.2)=Th):CI Y F.wA [R.v,S (itoa k),T.v] h (.tup []) (h.set R.s (R.w (jm k R.r T.r)).k):=by
 apply akc
 have fin:fA (RW h) (.tup []) (h.set R.s (R.w (jm k R.r T.r)).k) (.tup []) (h.set R.s (R.w (jm k R.r T.r)).k):=
  ⟨by rw[Zx ac],Cc hu (af.u _ _),.inl ⟨rfl,rfl⟩⟩
 simp only[wA,List.replicate_zero,Zo];by_cases h0:k=0
 .subst h0;have:itoa 0=[48]:=dw
  simp_all[agE,af.set_same]
 .have h48:¬itoa k=[48]:=λe=>h0 (By (e.trans (show[48]=itoa 0 by decide+kernel)))
  have:=U2 hB hT hR MT hk bT hl hL (RW h) h rfl (aU [((.exit 0),λl3 h'=>fA (RW h) (.tup []) (h.set R.s (R.w (jm k R.r T.r)).k) (.tup []) h')]) R.r [] [] T.r rfl rfl hl bR ac cU
  simp_all[af.set_same,Ru]
theorem ajn(hB:B<=100000)(hR:h[R.s]?=Wf R.k)(bR:lF B R.r)(hL:RW R.r<1000000)(hu:(h.all λx=>cj (RW h) x.2)=Th):
  CI Y F.yE [R.v] h (.tup []) (h.set R.s (R.w (R.r.map (- ·))).k):=by
 apply aj9
 have fin:fA (RW h) (.tup []) (h.set R.s (R.w (R.r.map (- ·))).k) (.tup []) (h.set R.s (R.w (R.r.map (- ·))).k):=
  ⟨by rw[Zx ac],Cc hu (af.u _ _),.inl ⟨rfl,rfl⟩⟩
 simp only[yE,List.replicate_zero,Zo];have:=TQ hR hB hL (RW h) h rfl (aU [((.exit 0),λl3 h'=>fA (RW h) (.tup []) (h.set R.s (R.w (R.r.map (- ·))).k) (.tup []) h')]) R.r [] bR ac cU
 simp_all[af.set_same,Ru]
end
theorem Dl(h:∀t∈Pc,t≠s):fC Pc s=Th:=by
 induction Pc with
 |nil=>rfl
 | cons t l ih=>
  rw[TK,beq_lit,decide_eq_false (h t ac),ih λu hu=>h u ae];rfl
theorem acu{b:Nat}(hc:∀t∈Pc,b<=t):∀x:V,under b x=Th->gZ Pc x=Th:=by
 intro x
 induction x using V.rec (motive_2:=λl=>jI b l=Th->fK Pc l=Th)with
 |agg l ih=>trivial
 |tup l ih=>trivial
 | fn g a c iha ihc=>
  grind[under,gZ]
 |ifc t x ih=>trivial
 |nil=>rfl
 | cons x l ih ihl h=>
  grind[jI,fK]
 | ref s e off len cap tot=>
  intro h;have:s<b:=by simpa[under,Wn]using h
  exact Dl λt ht=>by grind
 | ptr s e off tot=>
  intro h;have:s<b:=by simpa[under,Wn]using h
  exact Dl λt ht=>by grind
 |_=>intro _;rfl
theorem PC{Pc:ax}{b:Nat}(hc:∀t∈Pc,b<=t):∀l:bq,jI b l=Th->fK Pc l=Th
 |[],_=>rfl
 | x::l,h=>by
  simp[jI,Z7]at h;simp[fK,acu hc x h.1,PC hc l h.2,X8]
theorem acv{b:Nat}(hc:∀t∈Pc,b<=t)(x:Bk)(h:cj b x=Th):offB Pc x=Th:=by
 cases x with
 |vars l=>exact PC hc l h
 |_=>rfl
theorem TB{Pc:ax}{b:Nat}(hc:∀t∈Pc,b<=t):∀(h t:Hp)(i:Nat),(h.all λx=>cj b x.2)=Th->iq Pc (i+RW h) t=Th->iq Pc i (h++t)=Th
 |[],t,i,_,ht=>ht
 | x::h,t,i,hu,ht=>by
  simp only[List.all_cons,Z7]at hu;rw[List.cons_append,GM,acv hc _ hu.1,Bool.or_true,X5];refine TB hc h t (i+1) hu.2 ?_;rw[List.length_cons]at ht;rw[show i+1+RW h=i+(RW h+1) by omega];exact ht
theorem C4{Pc:ax}{b:Nat}(hc:∀t∈Pc,b<=t):∀(i:Nat)(h0 h:Hp),RW h=RW h0->(∀s,b<=i+s->s<RW h->h[s]?=Wf ah∧h0[s]?=Wf ah)->dl Pc i h0 h=h
 |_,[],[],_,_=>rfl
 |_,[],_::_,hl,_=>by rfl
 |_,_::_,[],hl,_=>by rfl
 | i,x0::h0,x::h,hl,hs=>by
  rw [C5,C4 hc (i+1) h0 h ae (λs hb PJ=>by
   have:=hs (s+1) aa ae;trivial)]
  split
  .rfl
  .rename_i hn
   have hb:b<=i:=by
    refine Classical.byContradiction λPJ=>hn (Dl λt ht=>?_)
    have:=hc t ht;omega
   have:=hs 0 aa ac
   grind
theorem GL{b:Nat}(hc:∀t∈Pc,b<=t){h:Hp}(hu:(h.all λx=>cj b x.2)=Th)(i:Nat):iq Pc i h=Th:=by
 have:=TB hc h [] i hu aM
 grind
structure Tr(b:Nat)(gh:Hp)(h:Hp)(so eo L:Nat)(m:List af):Prop where
 o:h[so]?=Wf (eo,.vars (m.map af.v))
 r:∀i,i<RW m->h[(nth af.z m i).s]?=Wf (nth af.z m i).k
 nd:∀i j,i<RW m->j<RW m->i≠j->(nth af.z m i).s≠(nth af.z m j).s
 no:∀i,i<RW m->(nth af.z m i).s≠so
 ln:∀i,i<RW m->(nth af.z m i).r.length=L
 fr:∀s,s≠so->(∀i,i<RW m->(nth af.z m i).s≠s)->h[s]?=gh[s]?
 so:so<b
 sb:∀i,i<RW m->(nth af.z m i).s<b
 u:(h.all λx=>cj b x.2)=Th
 bl:b<=RW h
 ow:∀s,b<=s->s<RW h->h[s]?=Wf ah
def ku(so eo n:Nat):V:=.ref so eo 0 n n n
def qa(so eo n i:Nat):V:=.ptr so eo i n
abbrev cZ:=nJ af.z af.r
abbrev nR(m:List af)(i:Nat):af:=nth af.z m i
theorem mC(d:α)(l:List α)(i j:Nat)(x:α)(h:i<RW l):nth d (l.set i x) j=if j=i then x else nth d l j:=by grind[nth]
theorem TJ(f:α->β)(d:α)(l:List α)(i:Nat)(h:i<RW l):(l.map f)[i]?=Wf (f (nth d l i)):=by simp[nth,h]
theorem af4(d:α)(l:List α)(i:Nat)(h:i<RW l):l.set i (nth d l i)=l:=by simp[nth,h]
variable{b so eo L:Nat}{m:List af}{gh h:Hp}
theorem Cx{b c:Nat}(hbc:b<=c){h:Hp}(hu:(h.all λx=>cj b x.2)=Th):(h.all λx=>cj c x.2)=Th:=by grind[ER]
theorem Tr.hu(T:Tr b gh h so eo L m):(h.all λx=>cj (RW h) x.2)=Th:=Cx T.bl T.u
theorem Tr.get(T:Tr b gh h so eo L m):aH h so eo=.vars (m.map af.v):=by simp[aH,T.o]
theorem Tr.ix(T:Tr b gh h so eo L m)(hi:i<RW m):bC h 1 (ku so eo (RW m)) (I i)=Wf (qa so eo (RW m) i):=by simp only[ku,bC,T.get];rw[ip ⟨ac,aa,aa⟩];simp[qa]
theorem Tr.ld(T:Tr b gh h so eo L m)(hi:i<RW m):ld1 h (qa so eo (RW m) i)=Wf (nR m i).v:=by simp only[qa,ld1,T.get];rw[ip ac,TJ _ af.z _ _ hi]
theorem Tr.ix2(T:Tr b gh h so eo L m){c:Nat}(hi:i<RW m)(hc:c<L):bC h 1 (nR m i).v (I c)=Wf ((nR m i).p c):=C3 (T.r i hi) (by grind[ln])
theorem Tr.ld2(T:Tr b gh h so eo L m){c:Nat}(hi:i<RW m)(hc:c<L):ld1 h ((nR m i).p c)=Wf (S (itoa (cZ m i c))):=FW (T.r i hi) (by grind[ln])
theorem af.w_v(R:af){r:aw}(hr:RW r=RW R.r):(R.w r).v=R.v:=by grind[v,w,tot]
theorem Tr.row(T:Tr b gh h so eo L m)(hi:i<RW m){r:aw}(hr:RW r=L):Tr b gh (h.set (nR m i).s ((nR m i).w r).k) so eo L (m.set i ((nR m i).w r)) where
 o:=by
  grind[no,o,Wx,af.w_v,ln,af4]
 r:=λj hj=>by
  rw[Yu]at hj;rw[mC _ _ _ _ _ hi];by_cases e:j=i
  .rw[ip e];exact af.set_get (R:=nR m i) (T.r i hi) rfl
  grind[r,nd]
 nd:=λj k hj hk hjk=>by
  rw[Yu]at hj hk;rw[mC _ _ _ _ _ hi,mC _ _ _ _ _ hi];by_cases e:j=i
  .subst e;rw[ip rfl,iN (Ne.symm hjk)];exact T.nd _ k hi hk hjk
  .rw[iN e];by_cases e2:k=i
   .subst e2;rw[ip rfl];exact T.nd j _ hj hi hjk
   grind[nd]
 no:=λj hj=>by
  rw[Yu]at hj;rw[mC _ _ _ _ _ hi];split
  .exact T.no i hi
  grind[no]
 ln:=λj hj=>by
  rw[Yu]at hj;rw[mC _ _ _ _ _ hi];split
  .exact hr
  grind[ln]
 so:=T.so
 sb:=λj hj=>by
  rw[Yu]at hj;rw[mC _ _ _ _ _ hi];split
  .exact T.sb i hi
  .exact T.sb j hj
 u:=Cc T.u rfl
 bl:=by rw[Yu];exact T.bl
 ow:=λs hs hl=>by
  rw[Yu]at hl;have:(nR m i).s<b:=T.sb i hi;rw[List.getElem?_set_ne aa];grind[ow]
 fr:=λs hs MT=>by
  have hall:∀j,j<RW m->(nth af.z m j).s≠s:=λj hj=>by
   have:=MT j ae;rw[mC _ _ _ _ _ hi]at this;by_cases e:j=i
   .subst e;rw[ip rfl]at this;exact this
   grind
  grind[fr]
theorem QB{n:Nat}(ho:h[so]?=Wf (eo,.vars cs))(hn:RW cs=n)(hi:i<n)(R:af):st h 1 (qa so eo n i) R.v=Wf (h.set so (eo,.vars (cs.set i R.v))):=by
 have hg:aH h so eo=.vars cs:=by simp[aH,ho]
 simp only[qa,af.v,st,iT,jk,hg];rw[ip ⟨hn.symm,ae,rfl⟩]
 have e:cs.set i (V.ref R.s R.e (RW R.pre) (RW R.r) R.cap R.tot)=cs.take i++[V.ref R.s R.e (RW R.pre) (RW R.r) R.cap R.tot]++cs.drop (i+1):=by
  rw[Yg,ip aa];simp
 rw[e];rfl
theorem rV{k:Nat}(hi:i<RW m)(hj:j<RW m)(hk:k<RW m):∃k',k'<RW m∧nth af.z (iG af.z m i j) k=nth af.z m k'∧k'=(if k=j then i else if k=i then j else k):=by
 refine⟨_,?_,?_,rfl⟩
 .grind
 .unfold iG;rw[mC _ _ _ _ _ ae];split
  .rfl
  grind[mC]
theorem Tr.swap(T:Tr b gh h so eo L m)(hi:i<RW m)(hj:j<RW m):Tr b gh (h.set so (eo, .vars ((iG af.z m i j).map af.v))) so eo L (iG af.z m i j) where
  o:=List.getElem?_set_self (List.getElem?_eq_some_iff.1 T.o).1
  r :=λk hk=>by
    rw[nu]at hk;have⟨k',h1,h2,_⟩:=rV hi hj hk
    grind[no,r]
  nd :=λk l hk hl hkl=>by
    rw[nu]at hk hl;have⟨k',h1,h2,h3⟩:=rV hi hj hk;have⟨l',h4,h5,h6⟩:=rV hi hj hl;rw[h2,h5];refine T.nd k' l' h1 h4 ?_;rw[h3,h6]
    repeat' split
    all_goals omega
  no :=λk hk=>by
    rw[nu]at hk;have⟨k',h1,h2,_⟩:=rV hi hj hk
    grind[no]
  ln :=λk hk=>by
    rw[nu]at hk;have⟨k',h1,h2,_⟩:=rV hi hj hk
    grind[ln]
  so:=T.so
  sb :=λk hk=>by
    rw[nu]at hk;have⟨k',h1,h2,_⟩:=rV hi hj hk;rw[h2];exact T.sb k' h1
  u :=by
    refine Cc T.u ?_
    have hv:∀l:List af,(∀R∈l,R.s<b)->jI b (l.map af.v)=Th:=by
      intro l hl
      induction l with
      |nil=>rfl
      | cons R l ih=>
        simp[Zv,jI,ih (λx hx=>hl x ae),X8]
        grind[af.v,under,Wn]
    refine hv _ λR hR=> ?_
    obtain⟨k,hk,rfl⟩:=Zj.1 hR;have hk':k<RW m:=by simpa[iG]using hk
    have⟨k',h1,h2,_⟩:=rV hi hj hk';rw[<-gN af.z _ _ hk,h2];exact T.sb k' h1
  bl:=by rw[Yu];exact T.bl
  ow :=λs hs hl=>by
    rw[Yu]at hl;have:=T.so;rw[List.getElem?_set_ne aa];grind[ow]
  fr :=λs hs MT=>by
    have hall:∀k,k<RW m->(nth af.z m k).s≠s:=λk hk=>by
      have⟨k',h1,h2,h3⟩:=rV (k:=if k=j then i else if k=i then j else k) hi hj (by split<;>(try split)<;>omega)
      have e : k' = k := by rw[h3];repeat' split
                            all_goals omega
      have:=MT _ (by rw[nu];show(if k=j then i else if k=i then j else k)<RW m;split<;>(try split)<;>omega)
      grind
    grind[fr]
theorem adY(hi:i<RW m)(hj:j<RW m):(((m.map af.v).set i (nR m j).v).set j (nR m i).v)=(iG af.z m i j).map af.v:=by simp[iG,Wx]
theorem Vg{b:Nat}:Big.cmp a b<0↔a<b:=by unfold Big.cmp;split<;>(try split)<;>omega
theorem zO(z:Int):itoa z=[48]↔z=0:=by have e:[48]=itoa 0:=dw;rw[e];exact⟨λh=>By h,λh=>by rw[h]⟩
theorem aa3{Bd:Nat}(bd:∀i,i<RW m->lF Bd (nR m i).r)(hB:Bd<=100000)(hi:i<RW m)(c:Nat):ay (cZ m i c).natAbs<=100001:=xe hB (Ex (bd i hi) c)
variable{Bd c:Nat}
theorem XF(T:Tr b gh h so eo L m)(hc:c<L)(hB:Bd<=100000)(bd:∀i,i<RW m->lF Bd (nR m i).r)(hm:RW m<1000000)(h0:Hp)(hh:RW h0=RW h)(K:KL) :
  ∀(r i:Nat)(a:Int),i+r=RW m->a<i->-1<=a->K (.exit 4) [I (lI af.z af.r c m r i a)] h ->
  lp (DC DA b (ku so eo (RW m)) (I c)) [] h0 [I a,I i] h K
 | 0,i,a,hr,h1,h2,hK=>by
  apply aL;have PJ:¬((i:Int)<(RW m:Int)):=aa;have l1:bh (ku so eo (RW m))=Wf (I (RW m)):=rfl;simp only[DC];simp[l1,PJ];exact hK
 | r+1,i,a,hr,h1,h2,hK=>by
  apply aL;have PJ:((i:Int)<(RW m:Int)):=aa;have l1:bh (ku so eo (RW m))=Wf (I (RW m)):=rfl;have hi:i<RW m:=aa;have i1:=T.ix hi;have i2:=T.ld hi;have i3:=T.ix2 hi hc;have i4:=T.ld2 hi hc;simp only[DC]
  have ih:=λa' (h1:a'<((i+1:Nat):Int)) (h2 : -1<=a') (hk:K (.exit 4) [I (lI af.z af.r c m r (i+1) a')] h)=>XF T hc hB bd hm h0 hh K r (i+1) a' aa h1 h2 hk
  simp only[lI]at hK
  have fin:∀a':Int,a'<((i+1:Nat):Int)->-1<=a'->K (.exit 4) [I (lI af.z af.r c m r (i+1) a')] h ->
    rl (lp (DC DA b (ku so eo (RW m)) (I c)) [] h0 [I a',.d (.int .i64 ((i:Int)+1))] h) K .mk:=λa' x1 x2 hk=>by
   simp_all
  by_cases e0:cZ m i c=0
  .have t0:=(zO (cZ m i c)).2 e0;rw[iN (λh=>h.1 e0)]at hK;simp[l1,PJ];apply cg;simp[i1,i2,i3,i4,t0];apply cg;simp(disch:=omega) [];exact fin a aa h2 hK
  .have t0:¬itoa (cZ m i c)=[48]:=λh=>e0 ((zO _).1 h)
   by_cases a0:a<0
   .rw[ip ⟨e0,.inl a0⟩]at hK;simp[l1,PJ];apply cg;simp[i1,i2,i3,i4,t0,a0];apply cg;simp(disch:=omega) [];exact fin i aa aa hK
   .obtain⟨n,rfl⟩:∃n:Nat,a=n:=⟨a.toNat,aa⟩;have hn:n<RW m:=aa;have j1:=T.ix hn;have j2:=T.ld hn;have j3:=T.ix2 hn hc;have j4:=T.ld2 hn hc;simp[l1,PJ];apply cg;simp[i1,i2,i3,i4,t0,a0];refine cd (Cg _) ?_;simp[j1,j2,j3,j4];refine cd (Cg _) ?_;simp;refine cd (JC (by have:=aa3 bd hB hi c;omega) (by have:=aa3 bd hB hn c;omega)) ?_
    have et:((n:Int)).toNat=n:=aa;rw[et]at hK;by_cases hl:(cZ m i c).natAbs<(cZ m n c).natAbs
    .have hcm:Big.cmp (cZ m i c).natAbs (cZ m n c).natAbs<0:=Vg.2 hl;rw[ip ⟨e0,.inr hl⟩]at hK;simp[hcm,t0];apply cg;simp(disch:=omega) [];exact fin i aa aa hK
    .have hcm:¬Big.cmp (cZ m i c).natAbs (cZ m n c).natAbs<0:=λg=>hl (Vg.1 g)
     rw[iN (λg=>g.2.elim (λg=>by omega) hl)]at hK;simp[hcm,t0];apply cg;simp(disch:=omega) [];exact fin n aa aa hK
theorem XE(hc:c<L)(hB:Bd<=100000)(hL:L<1000000){o:Nat}(h0:Hp)(h00:∀s,b<=s->s<RW h0->h0[s]?=Wf ah)(K:KL) :
  ∀(r i:Nat)(rs:Bool)(m:List af)(h:Hp),Tr b gh h so eo L m->RW m<1000000->RW h0=RW h->o<i->i+r=RW m->lF Bd (nR m o).r->(∀k,i<=k->k<RW m->lF Bd (nR m k).r)->cZ m o c≠0 ->
  (∀h',Tr b gh h' so eo L (km af.z af.r af.w c o r i rs m).2->RW h'=RW h->K (.exit 6) [B (km af.z af.r af.w c o r i rs m).1] h') ->
  lp (Hz DA b (ku so eo (RW m)) (I o) (I c)) [b+0] h0 [B rs,I i] h K
 | 0,i,rs,m,h,T,hm,hh,ho,hr,b1,b2,hz,hK=>by
  apply aL;have PJ:¬((i:Int)<(RW m:Int)):=aa;have l1:bh (ku so eo (RW m))=Wf (I (RW m)):=rfl;simp only[Hz];simp[l1,PJ];exact hK h T rfl
 | r+1,i,rs,m,h,T,hm,hh,ho,hr,b1,b2,hz,hK=>by
  apply aL;have PJ:((i:Int)<(RW m:Int)):=aa;have l1:bh (ku so eo (RW m))=Wf (I (RW m)):=rfl;have hi:i<RW m:=aa;have hoo:o<RW m:=aa;have i1:=T.ix hi;have i2:=T.ld hi;have i3:=T.ix2 hi hc;have i4:=T.ld2 hi hc;have j1:=T.ix hoo;have j2:=T.ld hoo;have j3:=T.ix2 hoo hc;have j4:=T.ld2 hoo hc;have n1:=xe hB (Ex (b2 i (Z8 _) hi) c)
  have n2:=xe hB (Ex b1 c);simp only[Hz];simp[l1,PJ,i1,i2,i3,i4,j1,j2,j3,j4];refine cd (Pq (z:=cZ m i c) (w:=cZ m o c) hz (by have:ay (cZ m i c).natAbs<=_:=n1;omega) (by have:ay (cZ m o c).natAbs<=_:=n2;omega)) ?_;simp[i1,i2,j1,j2];have nio:o≠i:=aa;have el:(nR m i).r.length=(nR m o).r.length:=by rw[T.ln i hi,T.ln o hoo]
  have T2:Tr b gh (h.set (nR m i).s ((nR m i).w (jm ((cZ m i c).fdiv (cZ m o c)) (nR m i).r (nR m o).r)).k) so eo L (gy af.z af.r af.w c o m i):=T.row hi (by rw[KO _ _ _ el,T.ln i hi]);have q1:ay ((cZ m i c).fdiv (cZ m o c)).natAbs<=100002:=Z1 (ir (XN _ _ hz)) (Z1 n1 aa)
  refine gG (UI hB (T.r o hoo) (T.r i hi) (T.nd i o hi hoo (Ne.symm nio)) q1 b1 (b2 i (Z8 _) hi) el (by grind[Tr.ln]) T.hu) ?_ ac;have e1:((i+1:Nat):Int)=(i:Int)+1:=aa;have Rg:RW (h.set (nR m i).s ((nR m i).w (jm ((cZ m i c).fdiv (cZ m o c)) (nR m i).r (nR m o).r)).k)=RW h:=Yu
  generalize h.set (nR m i).s ((nR m i).w (jm ((cZ m i c).fdiv (cZ m o c)) (nR m i).r (nR m o).r)).k=h1 at *;have no:nR (gy af.z af.r af.w c o m i) o=nR m o:=by unfold nR gy;rw[mC _ _ _ _ _ hi,iN nio]
  have tl:RW (gy af.z af.r af.w c o m i)=RW m:=rU ..
  have eo':cZ (gy af.z af.r af.w c o m i) o c=cZ m o c:=by
   show nth 0 (nR (gy af.z af.r af.w c o m i) o).r c=_
   rw[no];rfl
  have cl:∀x:Bool,clean [b] [B x,I ((i:Int)+1)] h1=Th:=λx=>by
   simp[clean,Z7];exact⟨rfl,GL ac T2.u 0⟩
  have rs1:dl [b] 0 h0 h1=h1:=C4 (b:=b) ac 0 h0 h1 aa λs h1' h2'=>⟨T2.ow s aa h2',h00 s aa aa⟩
  have ih:=λrs' (hk:∀h',Tr b gh h' so eo L (km af.z af.r af.w c o r (i+1) rs' (gy af.z af.r af.w c o m i)).2->RW h'=RW h->K (.exit 6) [B (km af.z af.r af.w c o r (i+1) rs' (gy af.z af.r af.w c o m i)).1] h')=>
   XE hc hB hL h0 h00 K r (i+1) rs' (gy af.z af.r af.w c o m i) h1 T2 aa aa aa aa ae
    (λk k1 k2=>by
     rw[tl]at k2;have:nR (gy af.z af.r af.w c o m i) k=nR m k:=by unfold nR gy;rw[mC _ _ _ _ _ hi,iN aa]
     rw[this];exact b2 k aa k2) aa (λh' t1 t2=>hk h' t1 aa)
  rw[tl,e1]at ih;simp only[km]at hK;cases rs with
  | true=>
   simp(disch:=omega) [cl,rs1]
   simp_all
  | false=>
   by_cases hf:(cZ m i c).fmod (cZ m o c)=0
   .have t0:=(zO ((cZ m i c).fmod (cZ m o c))).2 hf;simp(disch:=omega) [cl,rs1,t0]
    simp_all
   .have t0:¬itoa ((cZ m i c).fmod (cZ m o c))=[48]:=λh=>hf ((zO _).1 h)
    have t1:(itoa ((cZ m i c).fmod (cZ m o c)) == [48])=SM:=by simpa using t0
    simp(disch:=omega) [cl,rs1,t1]
    simp_all
theorem XD(hc:c<L)(hB:Bd<=100000)(hL:L<1000000){o:Nat}(h0:Hp)(h00:∀s,b<=s->s<RW h0->h0[s]?=Wf ah)(K:KL) :
  ∀(r i:Nat)(m:List af)(h:Hp),Tr b gh h so eo L m->RW m<1000000->RW h0=RW h->o<RW m->i+r=o->lF Bd (nR m o).r->(∀k,i<=k->k<o->lF Bd (nR m k).r)->cZ m o c≠0 ->
  (∀h',Tr b gh h' so eo L (oS af.z af.r af.w c o r i m)->RW h'=RW h->K (.exit 8) [] h') ->
  lp (Dz DA b (ku so eo (RW m)) (I o) (I c) (I o)) [b+2] h0 [I i] h K
 | 0,i,m,h,T,hm,hh,ho,hr,b1,b2,hz,hK=>by
  apply aL;have PJ:¬((i:Int)<(o:Int)):=aa;simp only[Dz];simp[PJ];exact hK h T rfl
 | r+1,i,m,h,T,hm,hh,hoo,hr,b1,b2,hz,hK=>by
  apply aL;have PJ:((i:Int)<(o:Int)):=aa;have hi:i<RW m:=aa;have i1:=T.ix hi;have i2:=T.ld hi;have i3:=T.ix2 hi hc;have i4:=T.ld2 hi hc;have j1:=T.ix hoo;have j2:=T.ld hoo;have j3:=T.ix2 hoo hc;have j4:=T.ld2 hoo hc;have n1:=xe hB (Ex (b2 i (Z8 _) aa) c);have n2:=xe hB (Ex b1 c);simp only[Dz]
  simp[PJ,i1,i2,i3,i4,j1,j2,j3,j4];refine cd (Pq (z:=cZ m i c) (w:=cZ m o c) hz (by have:ay (cZ m i c).natAbs<=_:=n1;omega) (by have:ay (cZ m o c).natAbs<=_:=n2;omega)) ?_;simp[i1,i2,j1,j2];have nio:o≠i:=aa;have el:(nR m i).r.length=(nR m o).r.length:=by rw[T.ln i hi,T.ln o hoo]
  have T2:Tr b gh (h.set (nR m i).s ((nR m i).w (jm ((cZ m i c).fdiv (cZ m o c)) (nR m i).r (nR m o).r)).k) so eo L (gy af.z af.r af.w c o m i):=T.row hi (by rw[KO _ _ _ el,T.ln i hi]);have q1:ay ((cZ m i c).fdiv (cZ m o c)).natAbs<=100002:=Z1 (ir (XN _ _ hz)) (Z1 n1 aa)
  refine gG (UI hB (T.r o hoo) (T.r i hi) (T.nd i o hi hoo (Ne.symm nio)) q1 b1 (b2 i (Z8 _) aa) el (by rw[T.ln i hi];exact hL) T.hu) ?_ (by intro _ _ _ _ _ h;cases h);have e1:((i+1:Nat):Int)=(i:Int)+1:=aa;have Rg:RW (h.set (nR m i).s ((nR m i).w (jm ((cZ m i c).fdiv (cZ m o c)) (nR m i).r (nR m o).r)).k)=RW h:=Yu
  generalize h.set (nR m i).s ((nR m i).w (jm ((cZ m i c).fdiv (cZ m o c)) (nR m i).r (nR m o).r)).k=h1 at *;have no:nR (gy af.z af.r af.w c o m i) o=nR m o:=by unfold nR gy;rw[mC _ _ _ _ _ hi,iN nio]
  have tl:RW (gy af.z af.r af.w c o m i)=RW m:=rU ..
  have eo':cZ (gy af.z af.r af.w c o m i) o c=cZ m o c:=by
   show nth 0 (nR (gy af.z af.r af.w c o m i) o).r c=_
   rw[no];rfl
  have cl:clean [b+2] [I ((i:Int)+1)] h1=Th:=by
   simp[clean,Z7];exact⟨rfl,GL (b:=b) ac T2.u 0⟩
  have rs1:dl [b+2] 0 h0 h1=h1:=C4 (b:=b) ac 0 h0 h1 aa λs h1' h2'=>⟨T2.ow s aa h2',h00 s aa aa⟩
  have ih:=XD hc hB hL h0 h00 K r (i+1) (gy af.z af.r af.w c o m i) h1 T2 (by rw[tl];exact hm) aa (by rw[tl];exact hoo) aa (by rw[no];exact b1)
    (λk k1 k2=>by
     have:nR (gy af.z af.r af.w c o m i) k=nR m k:=by unfold nR gy;rw[mC _ _ _ _ _ hi,iN aa]
     rw[this];exact b2 k aa k2) (by rw[eo'];exact hz) (λh' t1 t2=>by simp[oS]at hK;exact hK h' t1 aa)
  rw[tl,e1]at ih;simp(disch:=omega) [cl,rs1];exact lo ih
theorem Up(z:Int):(eU z<0)↔z<0:=by unfold eU;split<;>(try split)<;>omega
theorem abe(c:Nat)(m:List af):∀(r i:Nat)(a:Int),(a<0∨cZ m a.toNat c≠0)->(lI af.z af.r c m r i a<0∨cZ m (lI af.z af.r c m r i a).toNat c≠0)
 |0,_,_,h=>h
 | r+1,i,a,h=>by
  simp only[lI];refine abe c m r (i+1) _ ?_
  grind
theorem Qs(c o:Nat):∀(r i:Nat)(x:Bool)(m:List af)(k:Nat),k<i->i+r<=RW m->nR (km af.z af.r af.w c o r i x m).2 k=nR m k
 |0,_,_,_,_,_,_=>rfl
 | r+1,i,x,m,k,hk,hl=>by
  simp only[km];rw[Qs c o r (i+1) _ _ k aa (by grind[rU])];unfold nR gy;rw[mC _ _ _ _ _ aa,iN aa]
theorem aio(l:aw)(c:Nat):nth 0 (l.map (- ·)) c = -(nth 0 l c):=by grind[nth]
theorem apU{l:aw}(h:lF Bd l):lF Bd (l.map (- ·)):=λx hx=>by
 obtain⟨y,hy,rfl⟩:=Zw.1 hx;rw[X0];exact h y hy
theorem akE{n:Nat}(ho:h[so]?=Wf (eo,.vars cs))(hn:RW cs=n)(hi:i<n):bC h 1 (ku so eo n) (I i)=Wf (qa so eo n i):=by
 have hg:aH h so eo=.vars cs:=by simp[aH,ho]
 simp only[ku,bC,hg];rw[ip ⟨hn.symm,aa,aa⟩];simp[qa]
theorem XG(hc:c<L)(hB:Bd<=100000)(hL:L<1000000)(h0:Hp)(h00:∀s,b<=s->s<RW h0->h0[s]?=Wf ah)(K:KL) :
  ∀(f o:Nat)(m:List af)(h:Hp)(o':Nat)(m':List af),Tr b gh h so eo L m->RW m<1000000->RW h0=RW h->o<RW m->mn af.z af.r af.w Bd c f o m=Wf (o',m') ->
  (∀h',Tr b gh h' so eo L m'->RW h'=RW h->K (.exit 2) [I o'] h') ->
  lp (Mn DA b (ku so eo (RW m)) (I c)) [b+0,b+1,b+2] h0 [I o] h K
 |0,o,m,h,o',m',T,hm,hh,ho,hf,hK=>by trivial
 | f+1,o,m,h,o',m',T,hm,hh,ho,hf,hK=>by
  apply aL;simp only[mn]at hf;split at hf
  case isFalse=>cases hf
  rename_i hbd
  have bd:∀i,i<RW m->lF Bd (nR m i).r:=λi hi x hx=>by
   have h1:=Zz.1 hbd (nR m i) (by grind[gN]);have h2:=Zz.1 h1 x hx
   grind
  have⟨a,ha⟩:=bD (lI af.z af.r c m (RW m-o) o (-1));have ha2:=OM (d:=af.z) (g:=af.r) c m (RW m-o) o (-1) aa aa;rw[<-ha]at hf ha2;simp only[Mn];simp;refine lo (XF T hc hB bd hm h rfl _ (RW m-o) o (-1) aa aa aa ?_);rw[<-ha];by_cases a0:a<0
  .simp_all
  .rw[iN a0]at hf;obtain⟨n,rfl⟩:∃n:Nat,a=n:=⟨a.toNat,aa⟩;rw[show((n:Int)).toNat=n by omega]at hf;have hn:n<RW m:=aa;have i1:=T.ix hn;have i2:=T.ld hn;have j1:=T.ix ho;have j2:=T.ld ho;have s1:=QB (h:=h) T.o ac ho (nR m n);have hso:so<RW h:=(List.getElem?_eq_some_iff.1 T.o).1
   have g1:(h.set so (eo,.vars ((m.map af.v).set o (nR m n).v)))[so]?=Wf (eo,.vars ((m.map af.v).set o (nR m n).v)):=List.getElem?_set_self hso;have x1:=akE g1 (n:=RW m) ac hn;have s2:=QB g1 (n:=RW m) ac hn (nR m o);rw[List.set_set,adY ho hn]at s2;have T1:=T.swap ho hn;simp(disch:=omega) [a0,i1,i2,j1,j2,s1,x1,s2]
   have⟨H2,hH2⟩:=bD (h.set so (eo,.vars ((iG af.z m o n).map af.v)));have lH2:RW H2=RW h:=by rw[hH2];exact Yu
   rw[<-hH2]at T1 ⊢;have sl:RW (iG af.z m o n)=RW m:=nu ..
   have bd1:∀k,k<RW m->lF Bd (nR (iG af.z m o n) k).r:=λk hk=>by
    have⟨k',h1,h2,_⟩:=rV ho hn hk
    grind
   have z1:cZ (iG af.z m o n) o c=cZ m n c:=by
    have⟨k',h1,h2,h3⟩:=rV ho hn ho;have:k'=n:=by rw[h3];split<;>simp_all
    show nth 0 (nth af.z (iG af.z m o n) o).r c=_
    rw[h2,this];rfl
   have nz:cZ m n c≠0:=by
    have:=abe c m (RW m-o) o (-1) (.inl aa);rw[<-ha]at this;rcases this with g|g
    .omega
    .trivial
   have⟨s,hs⟩:=bD (km af.z af.r af.w c o (RW m-(o+1)) (o+1) SM (iG af.z m o n));rw[<-hs]at hf;have ls:s.2.length=RW m:=by rw[hs,xx,sl]
   have ks:∀k,k<=o->nR s.2 k=nR (iG af.z m o n) k:=λk hk=>by rw[hs];exact Qs c o _ _ _ _ k aa aa
   have e1:((o+1:Nat):Int)=(o:Int)+1:=aa;have hl3:=λK=>XE (o:=o) hc hB hL H2 T1.ow K (RW m-(o+1)) (o+1) SM (iG af.z m o n) H2 T1 aa rfl aa aa (bd1 o ho) (λk _ k2=>bd1 k aa) aa
   rw[<-hs,sl,e1]at hl3;refine lo (hl3 _ λh' T2 t2=>?_)
   have cl:∀(x:Int)(h'':Hp)(m2:List af),Tr b gh h'' so eo L m2->clean [b,b+1,b+2] [I x] h''=Th:=λx h'' m2 T=>by
    simp[clean,Z7];exact⟨rfl,GL (b:=b) ac T.u 0⟩
   have rs1:dl [b,b+1,b+2] 0 h0 h'=h':=C4 (b:=b) ac 0 h0 h' aa λs h1' h2'=>⟨T2.ow s aa h2',h00 s aa aa⟩
   by_cases hr:s.1=Th
   .rw[ip hr]at hf;have ih:=XG hc hB hL h0 h00 K f o s.2 h' o' m' T2 aa aa aa hf (λh3 a1 a2=>hK h3 a1 aa);rw[ls]at ih;simp[hr,cl _ h' s.2 T2,rs1];trivial
   .have hr2:s.1=SM:=by simpa using hr
    rw[iN hr]at hf;have hos:o<s.2.length:=aa;have i1':=T2.ix hos;have i2':=T2.ld hos;have i3':=T2.ix2 hos hc;have i4':=T2.ld2 hos hc;rw[ls]at i1' i2';have bds:∀k,k<=o->lF Bd (nR s.2 k).r:=λk hk=>by rw[ks k hk];exact bd1 k aa
    have zs:cZ s.2 o c≠0:=by
     show nth 0 (nR s.2 o).r c≠0
     rw[ks o (Z8 _)];have:nth 0 (nR (iG af.z m o n) o).r c=cZ m n c:=z1;rw[this];exact nz
    have tail:∀(m3:List af)(h3:Hp),Tr b gh h3 so eo L m3->RW h3=RW h->RW m3=RW m->(∀k,k<=o->lF Bd (nR m3 k).r)->cZ m3 o c≠0->oS af.z af.r af.w c o o 0 m3=m'->(o:Int)+1=(o':Int) ->
      lp (Dz DA b (ku so eo (RW m)) (I o) (I c) (I o)) [b+2] h3 [.d (.int .i64 0)] h3 (aU [((.exit 8),λl21 h=>
       bnd (aD .add (I o) (.d (.int .i64 1))) λv22=>
       K (.exit 2) [v22] h)]):=by
     intro m3 h3 T3 l3 lm b3 z3 hu ho'
     have q:=XD (o:=o) hc hB hL h3 T3.ow (aU [((.exit 8),λl21 h=>
       bnd (aD .add (I o) (.d (.int .i64 1))) λv22=>
       K (.exit 2) [v22] h)]) o 0 m3 h3 T3 aa rfl aa aa (b3 o (Z8 _)) (λk _ k2=>b3 k aa) z3 (λh4 T4 t4=>by
        rw[hu]at T4;simp(disch:=omega) [];rw[ho'];exact hK h4 T4 aa)
     rw[lm]at q;exact q
    cases hf;simp[hr2,i1',i2',i3',i4'];refine cd (tT _) ?_;by_cases hneg:cZ s.2 o c<0
    .have sg1:=(Up (cZ s.2 o c)).2 hneg;simp[sg1];apply cg;simp[i1',i2'];refine gG (ajn hB (T2.r o hos) (bds o (Z8 _)) (by grind[Tr.ln]) T2.hu) ?_ ac;simp;have T3:=T2.row hos (r:=(nR s.2 o).r.map (- ·)) (by grind[Tr.ln]);have eN:pi af.z af.r af.w c o s.2=s.2.set o ((nR s.2 o).w ((nR s.2 o).r.map (- ·))):=by unfold pi;rw[ip hneg]
     refine lo (tail _ _ T3 ae ae (λk hk=>?_) ?_ (by rw[eN]) e1.symm)
     .unfold nR;rw[mC _ _ _ _ _ hos];split
      .exact apU (bds o (Z8 _))
      grind
     ·have:cZ (s.2.set o ((nR s.2 o).w ((nR s.2 o).r.map (- ·)))) o c = -(cZ s.2 o c):=by
       show nth 0 (nth af.z _ o).r c=_
       rw[mC _ _ _ _ _ hos,ip rfl];exact aio _ _
      omega
    .have sg1:¬eU (cZ s.2 o c)<0:=λg=>hneg ((Up _).1 g)
     simp[sg1];apply cg;simp;have eN:pi af.z af.r af.w c o s.2=s.2:=by unfold pi;rw[iN hneg]
     exact lo (tail s.2 h' T2 aa ls bds zs (by rw[eN]) e1.symm)
variable{b so eo L:Nat}{gh:Hp}{Bd c:Nat}
theorem KZ(c:Nat):∀(f o:Nat)(m:List af)(o':Nat)(m':List af),o<RW m->mn af.z af.r af.w Bd c f o m=Wf (o',m')->o'<=RW m∧RW m'=RW m
 |0,o,m,o',m',ho,hf=>by trivial
 | f+1,o,m,o',m',ho,hf=>by
  simp only[mn]at hf;split at hf
  case isFalse=>cases hf
  split at hf
  .cases hf;exact⟨aa,rfl⟩
  .split at hf
   .have:=KZ c f o _ o' m' (by grind[xx,nu]) hf
    grind[xx,nu]
   .cases hf;exact⟨aa,by rw[Pz,LM,xx,nu]⟩
theorem XH{cols f:Nat}(hB:Bd<=100000)(hL:L<1000000)(hcl:cols<=L)(h0:Hp)(h00:∀s,b<=s->s<RW h0->h0[s]?=Wf ah)(K:KL) :
  ∀(r c o:Nat)(m:List af)(h:Hp)(o':Nat)(m':List af),Tr b gh h so eo L m->RW m<1000000->RW h0=RW h->o<=RW m->c+r=cols->kG af.z af.r af.w Bd f r c o m=Wf (o',m') ->
  (∀h',Tr b gh h' so eo L m'->RW h'=RW h->o'<=RW m'->RW m'=RW m->K (.exit 0) [I o'] h') ->
  lp (DF DA b (ku so eo (RW m)) (I cols)) [b+0,b+1,b+2] h0 [I o,I c] h K
 | 0,c,o,m,h,o',m',T,hm,hh,ho,hc,hf,hK=>by
  apply aL;simp only[kG]at hf;cases hf;have PJ:¬((c:Int)<(cols:Int)):=aa;simp only[DF];simp[PJ]
  grind
 | r+1,c,o,m,h,o',m',T,hm,hh,ho,hc,hf,hK=>by
  apply aL;simp[kG]at hf;have PJ:((c:Int)<(cols:Int)):=aa;have l1:bh (ku so eo (RW m))=Wf (I (RW m)):=rfl;simp only[DF];by_cases hom:o<RW m
  .rw[ip hom]at hf;have hom2:((o:Int)<(RW m:Int)):=aa;cases hr:mn af.z af.r af.w Bd c f o m with
   |none=>grind
   | some q=>
    have⟨o1,m1⟩:=q;rw[hr]at hf;simp only at hf;have⟨r1,r2⟩:=KZ c f o m o1 m1 hom hr;simp[PJ,l1,hom2];refine lo (XG (c:=c) aa hB hL h T.ow _ f o m h o1 m1 T hm rfl hom hr λh' T1 t1=>?_)
    have cl:clean [b,b+1,b+2] [I (o1:Int),I ((c:Int)+1)] h'=Th:=by
     simp[clean,Z7];exact⟨rfl,GL (b:=b) ac T1.u 0⟩
    have rs1:dl [b,b+1,b+2] 0 h0 h'=h':=C4 (b:=b) ac 0 h0 h' aa λs h1' h2'=>⟨T1.ow s aa h2',h00 s aa aa⟩
    have ih:=XH hB hL hcl h0 h00 K r (c+1) o1 m1 h' o' m' T1 aa aa aa aa hf (λh2 a1 a2 a3 a4=>hK h2 a1 aa a3 aa);have e1:((c+1:Nat):Int)=(c:Int)+1:=aa;rw[r2,e1]at ih;simp(disch:=try exact cC)[cl,rs1];trivial
  .rw[iN hom]at hf;cases hf;have hom2:¬((o:Int)<(RW m:Int)):=aa;simp[PJ,l1,hom2]
   grind
theorem Tr.eq{b so eo L:Nat}{gh h1 h2:Hp}{m:List af}(T1:Tr b gh h1 so eo L m)(T2:Tr b gh h2 so eo L m):h1=h2:=by
 apply Ye;intro i;by_cases e:i=so
 .subst e;rw[T1.o,T2.o]
 .by_cases e2:∃k,k<RW m∧(nth af.z m k).s=i
  .grind[r]
  .have hn:∀k,k<RW m->(nth af.z m k).s≠i:=λk hk he=>e2 ⟨k,hk,he⟩
   rw[T1.fr i e hn,T2.fr i e hn]
theorem Tr.app{b so eo L:Nat}{gh h:Hp}{m:List af}(T:Tr b gh h so eo L m)(hb:RW h=b)(hg:RW gh=b)(n:Nat):Tr b (gh++So n ah) (h++So n ah) so eo L m where
 o:=by rw[List.getElem?_append_left (by have:=T.so;omega)];exact T.o
 r:=λi hi=>by rw[List.getElem?_append_left (by have:=T.sb i hi;omega)];grind[r]
 nd:=T.nd
 no:=T.no
 ln:=T.ln
 fr:=λs hs hn=>by
  by_cases PJ:s<b
  .rw[List.getElem?_append_left aa,List.getElem?_append_left aa];grind[fr]
  .rw[List.getElem?_append_right aa,List.getElem?_append_right aa,hb,hg]
 so:=T.so
 sb:=T.sb
 u:=by
  grind[u,cj]
 bl:=by grind
 ow:=λs hs hl=>by
  rw[List.getElem?_append_right aa,List.getElem?_replicate,ip ae]
theorem ahY{h:Hp}{so eo n k:Nat}(hg:h[so]?=Wf (eo,.vars cs))(hc:RW cs=n)(hk:k<=n):gU h 1 (ku so eo n) Vc (Wf (I k))=Wf (.ref so eo 0 k n n):=by
 have g:aH h so eo=.vars cs:=by simp[aH,hg]
 simp only[ku,gU,g,eG];rw[ip ⟨aa,aa⟩]
 grind
theorem Me{h h':Hp}{so eo L cols f o':Nat}{m m':List af}{Bd:Nat}(hB:Bd<=100000)(hL:L<1000000)(hm:RW m<1000000)(hcl:cols<=L)(T:Tr (RW h) h h so eo L m)
  (hf:yX af.z af.r af.w Bd f cols m=Wf (o',m')) (T':Tr (RW h) h h' so eo L m') (hl:RW h'=RW h) :
  CI Y F.qW [ku so eo (RW m),I cols] h (.ref so eo 0 o' (RW m) (RW m)) h':=by
 apply Vj;simp only[qW];simp;have T0:=T.app rfl rfl 3;refine lo (XH hB hL hcl (h++So 3 ah) T0.ow _ cols 0 0 m _ o' m' T0 hm rfl aa aa hf λH TH lH ho hlm=>?_);have e:=TH.eq (T'.app hl rfl 3);subst e;have sl:=ahY (k:=o') TH.o (n:=RW m) ae aa
 have sl':gU (h'++[(0,Bk.none),(0,Bk.none),(0,Bk.none)]) 1 (ku so eo (RW m)) Vc (Wf (I o'))=Wf (.ref so eo 0 o' (RW m) (RW m)):=sl;simp[sl'];refine⟨by rw[X7 hl],T'.u,.inl ⟨rfl,?_⟩⟩
 grind[under,Wn,Tr.so]
theorem abj{s s' e i cap tot Nd:Nat}{old:bF}{ex:Bool}{x:D}{h:Hp}{q:bG}{u:PU q}(hg:h[s']?=Wf (e,.data 1 old ex SM))(hi:i<cap)(hc:cap<=RW old)(ht:tot=RW old)
  (hq:q (.ref s' e 0 (i+1) cap tot) (h.set s' (e,.data 1 (old.set i x) ex SM))):rh (cV SM s 1 Nd (.ref s' e 0 i cap tot) (.d (.sl 1 [x])) h) q u:=by
 subst ht;have g:aH h s' e=.data 1 old ex SM:=by simp[aH,hg]
 show cV SM s 1 Nd _ _ h q
 simp only[cV,cellsOf];rw[ip ac];unfold kK;rw[iN am];simp only[g];rw[ip ⟨trivial,trivial,aa,aa,ac⟩,ip aa];simp only[Bool.or_self,Zg,iF,bP];have e1:old.set i x=old.take i++x::old.drop (i+1):=by rw[Yg,ip aa]
 grind
structure Rd(h:Hp)(x:V)(r:aw):Prop where
 n:bh x=Wf (I (RW r))
 g:∀(t:Hp)(j:Nat),j<RW r->∃p,bC (h++t) 1 x (I j)=Wf p∧ld1 (h++t) p=Wf (I (nth 0 r j))
theorem Rd.data(h:Hp)(r:aw):Rd h (aj di r) r where
 n:=by rfl
 g:=λt j hj=>⟨_,mH di r _ (i:=(j:Int)) aa aa,by
  simp_all⟩
def ww(r:aw)(n i:Nat):Nat×Bk:=(1,.data 1 ((r.take i).map sI++So (n-i) (.str [])) Th SM)
theorem ajz{r:aw}(hi:i<RW r):((r.take i).map sI++So (RW r-i) (D.str [])).set i (sI (nth 0 r i))=(r.take (i+1)).map sI++So (RW r-(i+1)) (.str []):=by
 have e1:So (RW r-i) (D.str [])=.str []::So (RW r-(i+1)) (.str []):=by
  rw[<-List.replicate_succ];congr 1;omega
 have e2:r.take (i+1)=r.take i++[nth 0 r i]:=by rw[List.take_succ_eq_append_getElem hi,gN _ _ _ hi]
 have hl:RW ((r.take i).map sI)=i:=by simp;omega
 rw[e1,e2,Yy _ _ aa,hl,Y5];simp
theorem UB{h:Hp}{x:V}{r:aw}(hr:Rd h x r)(hz:∀z∈r,-9223372036854775808<z∧z<9223372036854775808)(hn:RW r<1000000)(h0:Hp)(hh:RW h0=RW h+2)(K:KL) :
  ∀(k i:Nat),i+k=RW r->K (.exit 0) [.ref (RW h) 1 0 (RW r) (RW r) (RW r)] (h++[ww r (RW r) (RW r),ah]) ->
  lp (HF DA (RW h) x (I (RW r))) [] h0 [.ref (RW h) 1 0 i (RW r) (RW r),I i] (h++[ww r (RW r) i,ah]) K
 | 0,i,hk,hK=>by
  apply aL;have PJ:¬((i:Int)<(RW r:Int)):=aa;have:i=RW r:=aa;subst this;simp only[HF];simp[PJ];exact hK
 | k+1,i,hk,hK=>by
  apply aL;have PJ:((i:Int)<(RW r:Int)):=aa;have hi:i<RW r:=aa;have⟨p,p1,p2⟩:=hr.g [ww r (RW r) i,ah] i hi;have⟨z1,z2⟩:=hz (nth 0 r i) (Dk hi);simp only[HF];simp[PJ,p1,p2];refine cd (kw z1 z2) ?_
  have hli:cI 1 [D.str []] [(0,S (itoa (nth 0 r i)))] (h++[ww r (RW r) i,ah])=Wf ([sI (nth 0 r i)],h++[ww r (RW r) i,ah]):=by
   simp[cI,dI,d8,dX,norm,sI]
  simp[hli];refine abj (i:=i) (e:=1) (old:=(r.take i).map sI++So (RW r-i) (.str [])) (ex:=true) (by simp[ww]) hi ae ae ?_;rw[ajz hi,Yy _ _ (Z8 _),Y5];have e1:((i+1:Nat):Int)=(i:Int)+1:=aa;have ih:=UB hr hz hn h0 hh K k (i+1) aa hK;rw[e1]at ih
  simp(disch:=try exact cC)[List.set_cons_zero]
  simp_all[ww]
theorem ajc(n:Nat)(z:D):dI n [z]=So n z:=by
 induction n with
 |zero=>rfl
 |succ n ih=>grind[dI]
theorem UH{s e Nd n:Nat}{b0:Bk}{z:D}{h:Hp}{k:bG}{u:PU k}(hs:h[s]?=Wf (e,b0))(hb:(Nd:Int)*(n:Int)<=281474976710656)(hn:n<=1000000)
  (hk:k (.ref s (e+1) 0 0 n n) (h.set s (e+1,.data 1 (So n z) Th SM))):rh (fS s Nd [z] h (I 0) (I n)) k u:=by
 show fS s Nd [z] h (I 0) (I n) k
 simp only[fS];rw[ip ⟨aa,aa,ac,hb,aa⟩]
 grind[new,ajc]
theorem L0{h:Hp}{x:V}{r:aw}(hr:Rd h x r)(hz:∀z∈r,-9223372036854775808<z∧z<9223372036854775808)(hn:RW r<1000000)(hu:(h.all λx=>cj (RW h) x.2)=Th):
  CI Y F.uu [x] h (.new 1 (r.map sI) Th (RW r) (RW r)) h:=by
 apply akh;simp only[uu];have l1:=hr.n;have hn2:(16:Int)*(RW r:Int)<=281474976710656:=aa;simp[l1];refine UH (e:=0) (b0:=.none) ac hn2 aa ?_;rw[Yy _ _ (Z8 _),Y5];simp[l1]
 have lp1:=UB hr hz hn (h++[(1,Bk.data 1 (So (RW r) (D.str [])) Th SM),(0,Bk.none)]) ac (aU
      [(Exit.exit 0,λl4 h_2=>
        fA (RW h) (V.new 1 (List.map sI r) Th (RW r) (RW r)) h (ge l4 0) h_2)]) (RW r) 0 aa (by
   simp;refine⟨ac,?_,.inr (.inr (.inl ⟨RW h,1,RW r,RW r,1,r.map sI,true,ac,Z8 _,by simp[aH,ww],rfl⟩))⟩;exact hu)
 trivial
theorem abL{h:Hp}{n:Nat}(hn:n<1000000)(hu:(h.all λx=>cj (RW h) x.2)=Th):
  CI Y F.yD [I n] h (.new 1 ((So n 0).map sI) Th n n) h:=by
 apply ajV;simp only[yD];simp(disch:=try exact cC);have⟨H,hH⟩:=bD (h++[(1,Bk.data 1 (So n (D.int iK.i64 0)) Th SM),(0,Bk.none)])
 have hg:∀t:Hp,aH (H++t) (RW h) 1=.data 1 (So n (D.int iK.i64 0)) Th SM:=λt=>by
  grind[aH]
 have hr:Rd H (.ref (RW h) 1 0 n n n) (So n 0):=by
  refine⟨ac,λt j hj=>⟨.ptr (RW h) 1 j n,?_,?_⟩⟩
  .rw[Y8]at hj;simp only[bC,hg t];rw[ip ⟨ac,aa,aa⟩];simp
  .rw[Y8]at hj;simp only[ld1,hg t];rw[ip ac];have e2:nth 0 (So n (0:Int)) j=0:=by simp[nth,hj]
   grind
 have hu2:(H.all λx=>cj (RW H) x.2)=Th:=by
  refine Cx (b:=RW h) ae ?_;rw[hH,Yo,hu];simp[cj]
 have lg:=L0 hr (λz hz=>by grind) ae hu2;rw[<-hH];refine jS lg (s:=RW h+1) (e:=0) (b:=.none) ae ?_;refine⟨ae,hu,.inr (.inr (.inl ⟨RW h+1,1,n,n,1,(So n 0).map sI,true,ac,aa,?_,rfl⟩))⟩
 grind[aH]
theorem ak6:mi af.z af.r af.w ([]:aw) (λr=>r) (λ_ r=>r) af.r:=⟨rfl,λ_=>rfl,λ_ _=>rfl⟩
section
variable{b so eo L n:Nat}{gh:Hp}{Q:af->Prop}
def gI(Q:af->Prop)(b:Nat)(gh:Hp)(so eo L n:Nat)(m:List af):Prop:=(∃h',Tr b gh h' so eo L m∧RW h'=n)∧∀i,i<RW m->Q (nR m i)
theorem I7{m:List af}(hc:∀i,i<RW m->Q (nR m i))(hi:i<RW m){R:af}(hR:Q R):∀j,j<RW (m.set i R)->Q (nR (m.set i R) j):=λj hj=>by
 grind[mC]
theorem gI.swap{m:List af}(T:gI Q b gh so eo L n m){i j:Nat}(hi:i<RW m)(hj:j<RW m):gI Q b gh so eo L n (iG af.z m i j):=by have⟨⟨h,T,e⟩,hc⟩:=T;exact⟨⟨_,T.swap hi hj,by simp[e]⟩,I7 (I7 hc hi (hc j hj)) ae (hc i hi)⟩
variable(hQ:∀R r,Q R->Q (af.w R r))
include hQ
theorem gI.take{m:List af}(T:gI Q b gh so eo L n m)(c:Nat){o:Nat}(ho:o<RW m)(hi:i<RW m):gI Q b gh so eo L n (gy af.z af.r af.w c o m i):=by
 have⟨⟨h,T,e⟩,hc⟩:=T;refine⟨⟨_,T.row hi (r:=jm _ (nR m i).r (nR m o).r) ?_,by simp[e]⟩,I7 hc hi (hQ _ _ (hc i hi))⟩
 grind[KO,Tr.ln]
theorem gI.sweep(c:Nat){o:Nat}:∀(r i:Nat)(f:Bool)(m:List af),gI Q b gh so eo L n m->o<RW m->i+r<=RW m->gI Q b gh so eo L n (km af.z af.r af.w c o r i f m).2
 |0,_,_,_,T,_,_=>T
 | r+1,i,f,m,T,ho,hi=>by
  simp only[km];exact gI.sweep c r (i+1) _ _ (gI.take hQ T c ho aa) (by grind[rU]) (by grind[rU])
theorem gI.up(c:Nat){o:Nat}:∀(r i:Nat)(m:List af),gI Q b gh so eo L n m->o<RW m->i+r<=RW m->gI Q b gh so eo L n (oS af.z af.r af.w c o r i m)
 |0,_,_,T,_,_=>T
 | r+1,i,m,T,ho,hi=>by
  simp[oS];exact gI.up c r (i+1) _ (gI.take hQ T c ho aa) (by grind[rU]) (by grind[rU])
theorem gI.neg{m:List af}(T:gI Q b gh so eo L n m)(c:Nat){o:Nat}(ho:o<RW m):gI Q b gh so eo L n (pi af.z af.r af.w c o m):=by
 unfold pi;split
 .have⟨⟨h,T,e⟩,hc⟩:=T;exact⟨⟨_,T.row ho (r:=(nR m o).r.map (- ·)) (by grind[Tr.ln]),by simp[e]⟩,I7 hc ho (hQ _ _ (hc o ho))⟩
 omega
theorem gI.round(B c:Nat):∀(f o:Nat)(m:List af)(o':Nat)(m':List af),gI Q b gh so eo L n m->o<RW m->mn af.z af.r af.w B c f o m=Wf (o',m')->gI Q b gh so eo L n m'
 |0,o,m,o',m',_,_,hf=>by trivial
 | f+1,o,m,o',m',T,ho,hf=>by
  simp only[mn]at hf;split at hf
  case isFalse=>cases hf
  split at hf
  .grind
  .rename_i ha;have h1:=OM (d:=af.z) (g:=af.r) c m (RW m-o) o (-1) aa aa
   have hs:gI Q b gh so eo L n (km af.z af.r af.w c o (RW m-(o+1)) (o+1) SM (iG af.z m o (lI af.z af.r c m (RW m-o) o (-1)).toNat)).2:=
    gI.sweep hQ c _ _ _ _ (gI.swap T ho aa) (by grind[nu]) (by grind[nu])
   split at hf
   .exact gI.round B c f o _ o' m' hs (by grind[xx,nu]) hf
   grind[up,neg,xx,nu,LM]
theorem gI.cols(B f:Nat):∀(r c o:Nat)(m:List af)(o':Nat)(m':List af),gI Q b gh so eo L n m->o<=RW m->kG af.z af.r af.w B f r c o m=Wf (o',m')->gI Q b gh so eo L n m'∧o'<=RW m∧RW m'=RW m
 |0,c,o,m,o',m',T,ho,hf=>by cases hf;trivial
 | r+1,c,o,m,o',m',T,ho,hf=>by
  simp[kG]at hf;split at hf
  .rename_i PJ;cases hr:mn af.z af.r af.w B c f o m with
   |none=>grind
   | some q=>
    have⟨o1,m1⟩:=q;rw[hr]at hf;have⟨r1,r2⟩:=KZ c f o m o1 m1 PJ hr;have⟨a1,a2,a3⟩:=gI.cols B f r (c+1) o1 m1 o' m' (gI.round hQ B c f o m o1 m1 T PJ hr) aa hf;exact⟨a1,aa,aa⟩
  grind
theorem Nc{h:Hp}{cols o':Nat}{m:List af}{Bd:Nat}(T:Tr b gh h so eo L m)(hc:∀i,i<RW m->Q (nR m i))(hf:yX af.z af.r af.w Bd f cols m=Wf (o',m')):((∃h',Tr b gh h' so eo L m'∧RW h'=RW h)∧∀i,i<RW m'->Q (nR m' i))∧o'<=RW m∧RW m'=RW m:=
 gI.cols hQ Bd f cols 0 0 m o' m' ⟨⟨h,T,rfl⟩,hc⟩ (Zb _) hf
omit hQ in
/-- The plain rows tell what form finds of rows in slots. -/
theorem Na{cols o':Nat}{m:List af}{z:Mz}{Bd:Nat}(hz:m6 Bd f cols (m.map af.r)=Wf (o',z)):∃m',yX af.z af.r af.w Bd f cols m=Wf (o',m')∧m'.map af.r=z:=by
 unfold m6 at hz;rw[ak6.form]at hz;cases hq:yX af.z af.r af.w Bd f cols m with
 |none=>grind
 | some q=>
  grind
end
theorem Tr.up{b c so eo L:Nat}{gh h:Hp}{m:List af}(T:Tr b gh h so eo L m)(hbc:b<=c)(hc:c<=RW h):Tr c gh h so eo L m where
 o:=T.o
 r:=T.r
 nd:=T.nd
 no:=T.no
 ln:=T.ln
 fr:=T.fr
 so:=by have:=T.so;omega
 sb:=λi hi=>by have:=T.sb i hi;omega
 u:=Cx hbc T.u
 bl:=hc
 ow:=λs hs hl=>T.ow s aa hl
def j6(r:aw):D:=.sl (RW r) (r.map sI)
def kY(m:Mz):V:=aj j6 m
@[simp]theorem arh(r:aw):norm (j6 r)=j6 r:=rfl
def we(h:Hp)(R:af):Prop:=∃f,h[R.s]?=Wf (R.e,.data 1 (R.pre++R.r.map sI++R.post) R.ex f)
theorem PZ{h:Hp}{R:af}(hc:RW R.r<=R.cap)(hR:we h R):∃h1,dX h R.v=Wf (j6 R.r,h1)∧(∀S,we h S->we h1 S)∧(∀(s e:Nat)(vs:bq),h[s]?=Wf (e,Bk.vars vs)->h1[s]?=Wf (e,Bk.vars vs)):=by
 have⟨f,hf⟩:=hR;have PJ:=(List.getElem?_eq_some_iff.1 hf).1;refine⟨h.set R.s (R.e,.data 1 (R.pre++R.r.map sI++R.post) R.ex Th),?_,λS ⟨g,hg⟩=>?_,λs e vs hs=>?_⟩
 .simp only[af.v,dX,aH,hf,iT];rw[ip ⟨R.tl,hc,ac⟩];simp[j6]
 .by_cases e:R.s=S.s
  .rw[e]at hf PJ ⊢;rw[hf]at hg;simp only[Z9,Z5,Bk.data.injEq]at hg;refine⟨Th,?_⟩
   grind
  .exact⟨g,ae⟩
 grind
theorem JL:∀(l:List af)(h:Hp),(∀R∈l,we h R)->(∀R∈l,RW R.r<=R.cap) ->
  ∃h1,d8 h (l.map af.v)=Wf (l.map (λR=>j6 R.r),h1)∧(∀(s e:Nat)(vs:bq),h[s]?=Wf (e,Bk.vars vs)->h1[s]?=Wf (e,Bk.vars vs))
 |[],h,_,_=>⟨h,rfl,λ_ _ _ hs=>hs⟩
 | R::l,h,ho,hc=>by
  have⟨h1,e1,k1,v1⟩:=PZ (hc R ac) (ho R ac);have⟨h2,e2,v2⟩:=JL l h1 (λS hS=>k1 S (ho S ae)) (λS hS=>hc S ae);exact⟨h2,by grind[d8],λs e vs hs=>v2 s e vs (v1 s e vs hs)⟩
theorem RN{so eo o:Nat}{h:Hp}{m:List af}(hs:h[so]?=Wf (eo,.vars (m.map af.v)))(hr:∀R∈m,we h R)(hc:∀R∈m,RW R.r<=R.cap)(h0:m≠[])(ho:o<=RW m):
  ∃h1,bQ h (.ref so eo 0 o (RW m) (RW m))=Wf (kY ((m.map af.r).take o),h1):=by
 have⟨h1,e1,v1⟩:=JL m h hr hc;have g1:=v1 _ _ _ hs;have g0:aH h so eo=.vars (m.map af.v):=by simp[aH,hs]
 have hd:wT (m.map af.v)=Vc:=by
  cases m with
  |nil=>trivial
  |cons R m=>rfl
 refine⟨bP h1 so eo (.data 1 (m.map λR=>j6 R.r) SM Th),?_⟩;have t1:dX h (.ref so eo 0 o (RW m) (RW m))=Vc:=by simp[dX,g0,hd]
 have t2:xq h (.ref so eo 0 o (RW m) (RW m))=Wf (.sl o ((m.map λR=>j6 R.r).take o),bP h1 so eo (.data 1 (m.map λR=>j6 R.r) SM Th)):=by
  simp only[xq,g0,e1];have:aH h1 so eo=.vars (m.map af.v):=by simp[aH,g1]
  simp only[this];rw[ip ae];simp
 simp_all[bQ,kY,aj,Function.comp_def]
def cO(ex:Bool)(s:Nat):cN->List af
 |[]=>[]
 |r::l=>⟨s,1,[],[],ex,RW r,r⟩::cO ex (s+1) l
theorem Mc(ex:Bool)(s:Nat)(l:cN)(r:aw):cO ex s (l++[r])=cO ex s l++[⟨RW l+s,1,[],[],ex,RW r,r⟩]:=by
 induction l generalizing s with
 |nil=>simp[cO]
 | cons x l ih=>
  simp only[List.cons_append,cO,ih,List.length_cons];rw[show RW l+(s+1)=RW l+1+s by omega]
@[simp] theorem Hk (ex:Bool)(s:Nat)(l:cN):RW (cO ex s l)=RW l:=by
 induction l generalizing s with
 |nil=>rfl
 |cons x l ih=>simp[cO,ih]
@[simp] theorem Ma (ex:Bool)(s:Nat)(l:cN):(cO ex s l).map af.r=l:=by
 induction l generalizing s with
 |nil=>rfl
 |cons x l ih=>simp[cO,ih]
theorem Mb(ex:Bool)(s:Nat):∀(l:cN)(i:Nat),i<RW l->nth af.z (cO ex s l) i=⟨i+s,1,[],[],ex,RW (nth [] l i),nth [] l i⟩
 |r::l,0,_=>by simp[cO,nth]
 | r::l,i+1,h=>by
  have:=Mb ex (s+1) l i ae;simp[cO];simp only[nth,List.getD_cons_succ]at this ⊢;rw[this,show i+(s+1)=i+1+s by omega]
theorem yA(ex:Bool)(s:Nat)(l:cN):∀R∈cO ex s l,s<=R.s∧R.s<RW l+s:=by
 induction l generalizing s with
 |nil=>simp[cO]
 | cons x l ih=>
  grind[cO]
theorem Hl(ex:Bool):∀(l:cN)(s:Nat)(pre post:Hp),RW pre=s->∀R∈cO ex s l,(pre++((cO ex s l).map af.k++post))[R.s]?=Wf R.k
 |[],_,_,_,_,R,hR=>by trivial
 | r::l,s,pre,post,hp,R,hR=>by
  simp only[cO,Zy]at hR ⊢;rcases hR with rfl|hR
  .grind
  .have:=Hl ex l (s+1) (pre++[af.k ⟨s,1,[],[],ex,RW r,r⟩]) post ae R hR
   grind
theorem ajy(ex:Bool)(s:Nat)(l:cN):∀R∈cO ex s l,RW R.r<=R.cap:=by
 induction l generalizing s with
 |nil=>simp[cO]
 | cons x l ih=>
  grind[cO]
theorem af.ok{h:Hp}{R:af}(hR:h[R.s]?=Wf R.k):we h R:=⟨SM,hR⟩
theorem jX:∀(i:Nat)(h0 h:Hp),dl [] i h0 h=h
 |_,[],h=>by cases h<;>rfl
 |_,_::_,[]=>rfl
 |i,x0::h0,x::h=>by rw[C5,jX (i+1) h0 h];rfl
def fT(l:List af):Nat×Bk:=(RW l,if l=[]then .none else .vars (l.map af.v))
def jw(s:Nat)(l:List af):V:=if l=[]then .d aW else .ref s (RW l) 0 (RW l) (RW l) (RW l)
theorem EQ{b:Nat}:∀(l:List af),(∀R∈l,R.s<b)->jI b (l.map af.v)=Th
 |[],_=>rfl
 | R::l,h=>by
  have h1:=h R ac;simp only[Zv,jI,EQ l λS hS=>h S ae,X8,af.v,under]
  simp_all
theorem Du{b:Nat}(h:∀R∈l,R.s<b):cj b (fT l).2=Th:=by
 simp[fT];split
 .rfl
 .exact EQ l h
theorem Ga{b:Nat}(l:List af):((l.map af.k).all λx=>cj b x.2)=Th:=by simp[af.k,cj]
theorem A8{b n:Nat}:((So n (ah:Nat×Bk)).all λx=>cj b x.2)=Th:=by simp[cj]
theorem Hd{so:Nat}{l:List af}{R:af}{h:Hp}{y:V}{q:bG}{u:PU q}(hn:RW l<1000)(hy:qC h y=Wf (1,[R.v]))(hs:h[so]?=Wf (fT l))
  (hq:q (jw so (l++[R])) (h.set so (fT (l++[R])))):rh (nf SM so 1 24 (jw so l) y h) q u:=by
 have hk:[R.v].all okV=Th:=rfl;by_cases e:l=[]
 .grind[ap3,jw,fT]
 .have hp:0<RW l:=Xn.2 e;simp[fT,iN e]at hs;simp[jw,iN e]
  have:=ap4 (s:=so) (s':=so) (e:=RW l) (Nd:=24) (k:=1) (off:=0) (len:=RW l) (cap:=RW l) (old:=l.map af.v) (q:=q) (u:=u) hy hk aa hs rfl ac ac aa (by
   grind[jw,fT,Zx])
  grind
def mE(l:List af)(o:Nat×Bk):Hp:=fT l::o::(l.map af.k++So (12-RW l) ah)
theorem Uz{m:cN}(hm:RW m<=12)(hr:∀r∈m,RW r<1000000)(hz:∀r∈m,∀z∈r,-9223372036854775808<z∧z<9223372036854775808)(h0:Hp)(K:KL) :
  ∀(q a:cN)(o:Nat×Bk),m=a++q->o.1=RW a->cj 14 o.2=Th->(∀o,K (.exit 0) [jw 0 (cO Th 2 m)] (mE (cO Th 2 m) o)) ->
  lp (HA DA (bf m) (I (RW m))) [] h0 [jw 0 (cO Th 2 a),I (RW a)] (mE (cO Th 2 a) o) K
 | [],a,o,e,ho,hu,hK=>by
  simp[Zo]at e;subst e;apply aL;simp only[HA];have PJ:¬((RW m:Int)<(RW m:Int)):=aa;simp[PJ]
  grind
 | r::q,a,o,e,ho,hu,hK=>by
  apply aL;have PJ:((RW a:Int)<(RW m:Int)):=by rw[e];simp;omega
  have hl:RW a<RW m:=aa;have hrm:r∈m:=by rw[e];simp
  have i1:bC (mE (cO Th 2 a) o) 1 (bf m) (I (RW a))=Wf (.dptr (m.map row) (RW a)):=by rw[e];exact yK row a r q _ _
  have i2:ld1 (mE (cO Th 2 a) o) (.dptr (m.map row) (RW a))=Wf (aj di r):=by
   rw[pq row m _ hl];simp only[e,Zd (Z8 _),Y5,Y2];rfl
  have Rg:RW (mE (cO Th 2 a) o)=14:=by simp[mE];omega
  have hu1:((mE (cO Th 2 a) o).all λx=>cj (RW (mE (cO Th 2 a) o)) x.2)=Th:=by
   rw[Rg];simp only[mE,List.all_cons,Yo,hu,Ga,A8,X8,X5];exact Du λR hR=>by have:=yA Th 2 a R hR;omega
  simp only[HA];simp[PJ,i1,i2];have DQ:RW a<12:=aa
  have g1:(mE (cO Th 2 a) o)[RW a+2]?=Wf ah:=by
   simp only[mE,List.getElem?_cons_succ];rw[List.getElem?_append_right ac,List.getElem?_replicate,ip dG]
  refine qx (RW a+2) ?_;refine jS (L0 (Rd.data _ r) (hz r hrm) (hr r hrm) hu1) g1 ?_;have⟨R,hR⟩:∃R:af,R=⟨RW a+2,1,[],[],true,RW r,r⟩:=⟨_,rfl⟩;have v1:V.ref (RW a+2) (0+1) 0 (RW r) (RW r) (RW (r.map sI))=R.v:=by rw[hR];simp[af.v,af.tot]
  have k1:((0+1,Bk.data 1 (r.map sI) Th SM):Nat×Bk)=R.k:=by rw[hR];simp[af.k]
  have e1:(mE (cO Th 2 a) o).set (RW a+2) R.k=fT (cO Th 2 a)::o::((cO Th 2 a++[R]).map af.k++So (12-RW (cO Th 2 a++[R])) ah):=by
   simp only[mE,List.set_cons_succ];rw[Yy _ _ ac];simp only[List.length_map,Hk,Y5,Yn,List.length_append,List.append_assoc,Zv,Yq,List.length_cons,List.length_nil];rw[show 12-RW a=(12-(RW a+1))+1 by omega,List.replicate_succ,List.set_cons_zero];rfl
  have l2:cO Th 2 (a++[r])=cO Th 2 a++[R]:=by rw[Mc,hR]
  rw[v1,k1,e1,<-l2];simp;refine qx 1 ?_;simp;refine G9 (e:=o.1) (b:=o.2) rfl (v:=R.v) rfl ?_;simp;refine qx 0 ?_;simp;refine(Hd (l:=cO Th 2 a) (R:=R) dG (by simp[qC,aH]) rfl ?_);rw[<-l2];have ih:=Uz hm hr hz h0 K q (a++[r]) (o.1+1,.vars [R.v]) (by simp[e]) ae (by grind[cj,jI,under,Wn]) hK
  have e2:(RW (a++[r]):Int)=(RW a:Int)+1:=ac;rw[e2]at ih;simp(disch:=try exact cC);apply lo;have e3:12-RW (cO Th 2 (a++[r]))=11-RW a:=ac
  grind[mE.eq_1,jX]
theorem Uy{m:cN}(hm:RW m<=12)(hr:∀r∈m,RW r<1000000)(hz:∀r∈m,∀z∈r,-9223372036854775808<z∧z<9223372036854775808):Ds F.qi [bf m] (kY m):=by
 apply aj3;simp only[Vl];have h0:(So 14 (0,Bk.none))=mE (cO Th 2 []) ah:=rfl;simp;refine lo (Uz hm hr hz _ _ m [] ah rfl rfl rfl λo=>?_);simp;by_cases hm0:m=[]
 .subst hm0;exact⟨_,rfl⟩
 .have hl:cO Th 2 m≠[]:=λe=>hm0 (by grind[Hk])
  rw[jw,iN hl]
  obtain ⟨h1,e1⟩:=RN (so:=0) (eo:=RW (cO Th 2 m)) (o:=RW (cO Th 2 m)) (h:=mE (cO Th 2 m) o) (m:=cO Th 2 m) (by simp[mE,fT,hl])
   (λR hR=>af.ok (Hl Th m 2 [fT (cO Th 2 m),o] _ rfl R hR)) (ajy Th 2 m) hl (Z8 _)
  rw[Ma,Hk,Xj]at e1;exact⟨h1,xP⟩
def m8(m:Mz)(c:Nat):aw:=m.map λr=>nth 0 r c
theorem VC(p:Mz)(r:aw)(q:Mz)(h:Hp):bC h 1 (kY (p++r::q)) (I (RW p))=Wf (.dptr ((p++r::q).map j6) (RW p)):=yK j6 p r q _ _
theorem Va(p:Mz)(r:aw)(q:Mz)(h:Hp):ld1 h (.dptr ((p++r::q).map j6) (RW p))=Wf (aj sI r):=by rw[pq j6 _ h ac];simp only[Zd (Z8 _),Y5,Y2];rfl
def bz(s:Nat):Acc:=⟨s,0,1,.none⟩
theorem Vx{m:Mz}{c:Nat}(hc:∀r∈m,c<RW r)(hm:RW m<1000)(s0:Nat){hb:Hp}(DQ:s0<RW hb)(h0:Hp)(K:KL):∀(q p:Mz),m=p++q ->
  K (.exit 2) [(bz s0).v (RW m) ((m8 m c).map sI)] (hb.set s0 ((bz s0).b (RW m) ((m8 m c).map sI))) ->
  lp (Hv DA (I c) (kY m) (I (RW m))) [] h0 [(bz s0).v (RW p) ((m8 p c).map sI),I (RW p)] (hb.set s0 ((bz s0).b (RW p) ((m8 p c).map sI))) K
 | [],p,e,hK=>by
  simp[Zo]at e;subst e;apply aL;have PJ:¬((RW m:Int)<(RW m:Int)):=aa
  simp_all[Hv]
 | r::q,p,e,hK=>by
  apply aL;have PJ:((RW p:Int)<(RW m:Int)):=by rw[e];simp;omega
  have hcr:c<RW r:=hc r ae;have⟨H,hH⟩:=bD (hb.set s0 ((bz s0).b (RW p) ((m8 p c).map sI)));have i1:bC H 1 (kY m) (I (RW p))=Wf (.dptr (m.map j6) (RW p)):=by rw[e];exact VC p r q H
  have i2:ld1 H (.dptr (m.map j6) (RW p))=Wf (aj sI r):=by rw[e];exact Va p r q H
  have i3:bC H 1 (aj sI r) (I c)=Wf (.dptr (r.map sI) c):=sQ sI r H rfl hcr;have i4:ld1 H (.dptr (r.map sI) c)=Wf (.d (sI (nth 0 r c))):=mZ sI 0 r H hcr;rw[<-hH];simp only[Hv];have hli:cI 1 [D.str []] [(0,.d (sI (nth 0 r c)))] H=Wf ([sI (nth 0 r c)],H):=by simp[cI,dI,d8,dX,norm,sI]
  simp[PJ,i1,i2,i3,i4,hli];refine qx s0 ?_;have hs:H[s0]?=Wf ((bz s0).b (RW p) ((m8 p c).map sI)):=by rw[hH,List.getElem?_set_self DQ]
  have e1:m8 (p++[r]) c=m8 p c++[nth 0 r c]:=by simp[m8]
  simp;refine kM (bz s0) (Nd:=16) (k:=1) (cs:=[sI (nth 0 r c)]) aa hs (by simp[m8,bz]) aM rfl ae aa (by simp[bz]) ?_;rw[hH,show(bz s0).s=s0 from rfl,List.set_set];have ih:=Vx hc hm s0 DQ h0 K q (p++[r]) (by simp[e]) hK;have e2:(RW (p++[r]):Int)=(RW p:Int)+1:=ac;rw[e2,e1,Yn,List.length_append]at ih
  simp(disch:=omega) []
  simp_all[jX]
def oQ(n:Nat)(m:Mz)(c:Nat):aw:=m8 m c++(So n (0:Int)).set c 1
def fY(n:Nat)(m:Mz)(c:Nat):List af:=cO SM 5 ((List.range c).map (oQ n m))
@[simp]theorem Jr(n:Nat)(m:Mz)(c:Nat):RW (fY n m c)=c:=by simp[fY]
theorem Js(n:Nat)(m:Mz)(c:Nat):RW (oQ n m c)=RW m+n:=by simp[oQ,m8]
def kH(l:List af)(o:Nat×Bk):Hp:=ah::ah::ah::fT l::o::(l.map af.k++So (14-RW l) ah)
theorem Sm:∀(Pc:ax)(i:Nat)(h0 h:Hp),(∀c∈Pc,c<i)->dl Pc i h0 h=h
 |_,_,[],h,_=>by cases h<;>rfl
 |_,_,_::_,[],_=>rfl
 | Pc,i,x0::h0,x::h,hc=>by
  rw[C5,Sm Pc (i+1) h0 h (λc hcc=>by grind),ip (Dl λt ht=>by grind)]
theorem TC{Pc:ax}:∀(i:Nat)(h:Hp),(∀x∈h,offB Pc x.2=Th)->iq Pc i h=Th
 |_,[],_=>rfl
 |i,x::h,hx=>by rw[GM,hx x ac,Bool.or_true,X5,TC (i+1) h λy hy=>hx y ae]
theorem Lz{Pc:ax}:∀(l:List af),(∀R∈l,fC Pc R.s=Th)->fK Pc (l.map af.v)=Th
 |[],_=>rfl
 | R::l,h=>by
  simp[Zv,fK,af.v,gZ,h R ac,X5];exact Lz l λS hS=>h S ae
theorem aif(h:∀R∈l,fC Pc R.s=Th):offB Pc (fT l).2=Th:=by
 simp[fT];split
 .rfl
 .exact Lz l h
theorem TL(h:0<s):fC [0] s=Th:=Dl λt ht=>by grind
theorem Vy{m:Mz}{n:Nat}(hn:n<=14)(hc:∀r∈m,RW r=n)(hm:RW m<1000)(t0:Hp)(K:KL):∀(k c:Nat)(o:Nat×Bk),c+k=n->o.1=c->cj 19 o.2=Th->offB [0] o.2=Th ->
  (∀o,cj 19 o.2=Th->o.1=n->K (.exit 0) [jw 3 (fY n m n)] (kH (fY n m n) o)) ->
  lp (Hy DA (kY m) (I n) (I n)) [0] (ah::t0) [jw 3 (fY n m c),I c] (kH (fY n m c) o) K
 | 0,c,o,e,ho,hu,hf,hK=>by
  apply aL;have:c=n:=aa;subst this;have PJ:¬((c:Int)<(c:Int)):=aa;simp only[Hy];simp[PJ]
  grind
 | k+1,c,o,e,ho,hu,hf,hK=>by
  apply aL;have PJ:((c:Int)<(n:Int)):=aa;have l1:bh (kY m)=Wf (I (RW m)):=rfl;simp only[Hy];simp[PJ,l1]
  have bP:(kH (fY n m c) o).set (c+5) ((bz (c+5)).b 0 [])=kH (fY n m c) o:=by
   simp only[kH,List.set_cons_succ];rw[Yy _ _ ac];simp only[List.length_map,Jr,Y5];rw[show 14-c=(14-(c+1))+1 by omega,List.replicate_succ,List.set_cons_zero];rfl
  rw[<-bP];refine lo (Vx (λr hr=>by grind) hm (c+5) (hb:=kH (fY n m c) o) (by grind[kH]) _ _ m [] rfl ?_);simp;have⟨X,hX⟩:=bD ((bz (c+5)).b (RW m) ((m8 m c).map sI));have⟨tl,htl⟩:∃tl,tl=(fY n m c).map af.k++X::So (13-c) (0,Bk.none):=⟨_,rfl⟩
  have hA:(kH (fY n m c) o).set (c+5) X=ah::ah::ah::fT (fY n m c)::o::tl:=by
   simp only[kH,List.set_cons_succ];rw[Yy _ _ ac];simp only[List.length_map,Jr,Y5];rw[show 14-c=(13-c)+1 by omega,List.replicate_succ,List.set_cons_zero,htl]
  have zS:tl[c]?=Wf X:=by
   rw[htl,List.getElem?_append_right ac];simp
  have tset:∀Y,tl.set c Y=(fY n m c).map af.k++Y::So (13-c) ah:=λY=>by
   rw[htl,Yy _ _ ac];simp
  have tlen:RW tl=14:=by rw[htl];simp[List.length_append,List.length_map,Jr,List.length_cons,Y8]<;>omega
  have hrs:∀R∈fY n m c,0<R.s∧R.s<19:=λR hR=>by have:=yA SM 5 _ R hR;grind
  have htu:(tl.all λx=>cj 19 x.2)=Th:=by
   rw[htl,Yo,List.all_cons,Ga,A8,hX,X5,X8];cases m<;>rfl
  have hu0:((ah::ah::ah::fT (fY n m c)::o::tl:Hp).all λx=>cj (RW (ah::ah::ah::fT (fY n m c)::o::tl:Hp)) x.2)=Th:=by
   simp only[List.length_cons,tlen,List.all_cons,hu,htu,X8];exact Du λR hR=>(hrs R hR).2
  rw[<-hX,hA];refine jS (abL aa hu0) (s:=0) (e:=0) (b:=.none) rfl ?_;rw[List.set_cons_zero];have⟨R0,hR0⟩:∃R:af,R=⟨0,1,[],[],true,n,So n 0⟩:=⟨_,rfl⟩;have v0:V.ref 0 (0+1) 0 n n (RW ((So n (0:Int)).map sI))=R0.v:=by rw[hR0];simp[af.v,af.tot]
  have k0:((0+1,Bk.data 1 ((So n (0:Int)).map sI) Th SM):Nat×Bk)=R0.k:=by rw[hR0];simp[af.k]
  have s0:R0.s=0:=by rw[hR0]
  rw[v0,k0];have⟨T,hT⟩:∃T:Hp,T=ah::ah::fT (fY n m c)::o::tl:=⟨_,rfl⟩;rw[<-hT];have g0:(R0.k::T)[R0.s]?=Wf R0.k:=by rw[s0];rfl
  have i1:bC (R0.k::T) 1 R0.v (I c)=Wf (R0.p c):=C3 g0 ae;have i2:=KJ g0 (j:=c) ae 1
  have e49:S (itoa 1)=V.d (D.str [49]):=by
   have:itoa 1=[49]:=dw;rw[this]
  rw[s0,List.set_cons_zero,e49]at i2;simp[i1,i2];refine qx (c+5) ?_;simp;have⟨T1,hT1⟩:=bD ((R0.w (R0.r.set c 1)).k)
  have cy:cellsOf (T1::T) R0.v=Wf (n,((So n (0:Int)).set c 1).map sI):=by
   rw[hT1,hR0];simp[cellsOf,af.v,af.w,af.k,aH,af.tot];exact Zx ac
  have hs:(T1::T)[(bz (c+5)).s]?=Wf ((bz (c+5)).b (RW m) ((m8 m c).map sI)):=by
   show(T1::T)[c+5]?=_
   rw[hT,<-hX];simpa using zS
  rw[<-hT1];refine kM (bz (c+5)) (Nd:=16) (k:=n) (cs:=((So n (0:Int)).set c 1).map sI) aa hs (by simp[m8,bz]) (by simp[bz]) cy ae aa (by simp[bz]) ?_;have⟨R,hR⟩:∃R:af,R=⟨c+5,1,[],[],false,RW (oQ n m c),oQ n m c⟩:=⟨_,rfl⟩;have hcell:(m8 m c).map sI++((So n (0:Int)).set c 1).map sI=(oQ n m c).map sI:=by simp[oQ]
  have hL:RW m+n=(RW m+n-1)+1:=aa
  have vR:(bz (c+5)).v (RW m+n) ((oQ n m c).map sI)=R.v:=by
   rw[hL,hR];simp only[Acc.v,af.v,af.tot,bz,Js,List.length_map,List.length_nil];rw[<-hL];simp
  have bR:(bz (c+5)).b (RW m+n) ((oQ n m c).map sI)=R.k:=by
   rw[hL,hR];simp[Acc.b,af.k,bz]
  have hw:fY n m (c+1)=fY n m c++[R]:=by
   simp[fY,Wu,Yn,Zv,Yq];rw[Mc,hR];simp
  have hse:(T1::T).set (bz (c+5)).s R.k=T1::ah::ah::fT (fY n m c)::o::tl.set c R.k:=by
   show(T1::T).set (c+5) R.k=_
   rw[hT];simp[List.set_cons_succ]
  rw[hcell,vR,bR,hse];have Rs:R.s=c+5:=by rw[hR]
  simp;refine qx 4 ?_;simp;refine G9 (e:=o.1) (b:=o.2) rfl (v:=R.v) rfl ?_;simp;refine qx 3 ?_;simp;refine Hd (l:=fY n m c) (R:=R) (by simp<;>omega) (by simp[qC,aH]) rfl ?_;rw[<-hw];have hR4:offB [0] (.vars [R.v])=Th:=Lz [R] λS hS=>by simp at hS;subst hS;exact TL aa
  have ih:=Vy hn hc hm t0 K k (c+1) (o.1+1,.vars [R.v]) aa aa (EQ [R] λS hS=>by grind) hR4 hK;have e2:((c+1:Nat):Int)=(c:Int)+1:=aa;rw[e2]at ih
  have hk:kH (fY n m (c+1)) (o.1+1,.vars [R.v])=ah::ah::ah::fT (fY n m (c+1))::(o.1+1,.vars [R.v])::tl.set c R.k:=by
   rw[kH,tset,hw];simp<;>omega
  have rs:dl [0] 0 ((0,Bk.none)::t0) (T1::(0,Bk.none)::(0,Bk.none)::fT (fY n m (c+1))::(o.1+1,Bk.vars [R.v])::tl.set c R.k)=kH (fY n m (c+1)) (o.1+1,.vars [R.v]):=by
   rw[hk,C5,Sm [0] (0+1) _ _ ac];rfl
  have cl:clean [0] [jw 3 (fY n m (c+1)),I ((c:Int)+1)] (T1::(0,Bk.none)::(0,Bk.none)::fT (fY n m (c+1))::(o.1+1,Bk.vars [R.v])::tl.set c R.k)=Th:=by
   simp[clean,Z7];refine⟨?_,TC 0 _ λx hx=>?_⟩
   .simp only[jw];split<;>rfl
   .simp only[Zy,tset,Xc,Zw,Ww]at hx;rcases hx with rfl|rfl|rfl|rfl|rfl|⟨S,_,rfl⟩|rfl|⟨_,rfl⟩
    .rw[hT1];rfl
    .rfl
    .rfl
    .refine aif λS hS=>TL ?_
     have:=yA SM 5 _ S hS;omega
    .omega
    .rfl
    .rfl
    .rfl
  have ea:aD BinOp.add (I c) (V.d (D.int iK.i64 1))=Wf (I ((c:Int)+1)):=by simp(disch:=omega) []
  grind[bnd]
@[simp]theorem arc(z:Int):norm (sI z)=sI z:=rfl
theorem ajJ(z:Int):Ds F.yF [.d (sI z)] (B (decide (z≠0))):=by
 apply akf;by_cases h:z=0
 .have t0:=(zO z).2 h;simp[yF,sI,t0]
  simp_all
 .have t0:¬itoa z=[48]:=λg=>h ((zO z).1 g)
  have t1:(itoa z == [48])=SM:=by simpa using t0
  simp[yF,sI,t1]
  simp_all
def Dy(l:aw):Int:=fL (λz=>decide (z≠0)) l
theorem ajp(l:aw)(hl:RW l<1000000):Ds F.Bs [aj sI l] (I (Dy l)):=by
 apply ake;simp only[Bs];simp;refine cd (v:=I (Dy l)) (aeS (HS (f:=sI) l aa (λx=>by rfl) (λz _=>ajJ z))) ?_ ?_
 .simp
 rfl
def pV(l:aw)(n i:Nat):Nat×Bk:=(1,.data 1 ((l.take i).map di++So (n-i) (.int .i64 0)) Th SM)
theorem afY{r:aw}(hi:i<RW r):((r.take i).map di++So (RW r-i) (D.int .i64 0)).set i (di (nth 0 r i))=(r.take (i+1)).map di++So (RW r-(i+1)) (.int .i64 0):=by
 have e1:So (RW r-i) (D.int .i64 0)=.int .i64 0::So (RW r-(i+1)) (.int .i64 0):=by
  rw[<-List.replicate_succ];congr 1;omega
 have e2:r.take (i+1)=r.take i++[nth 0 r i]:=by rw[List.take_succ_eq_append_getElem hi,gN _ _ _ hi]
 have hl:RW ((r.take i).map di)=i:=by simp;omega
 rw[e1,e2,Yy _ _ aa,hl,Y5];simp
theorem Un{l:aw}(hz:∀z∈l,-1000000000<=z∧z<=1000000000)(hn:RW l<1000000)(h0:Hp)(hh:RW h0=2)(K:KL) :
  ∀(k i:Nat),i+k=RW l->K (.exit 0) [.ref 0 1 0 (RW l) (RW l) (RW l)] [pV l (RW l) (RW l),ah] ->
  lp (HC DA (aj sI l) (I (RW l))) [] h0 [.ref 0 1 0 i (RW l) (RW l),I i] [pV l (RW l) i,ah] K
 | 0,i,hk,hK=>by
  apply aL;have PJ:¬((i:Int)<(RW l:Int)):=aa;have:i=RW l:=aa;subst this;simp only[HC];simp[PJ];exact hK
 | k+1,i,hk,hK=>by
  apply aL;have PJ:((i:Int)<(RW l:Int)):=aa;have hi:i<RW l:=aa;have⟨z1,z2⟩:=hz (nth 0 l i) (Dk hi)
  have p1:bC [pV l (RW l) i,ah] 1 (aj sI l) (I i)=Wf (.dptr (l.map sI) i):=by
   have:=mH sI l [pV l (RW l) i,ah] (k:=.i64) (i:=(i:Int)) aa aa;simpa using this
  have p2:=mZ sI 0 l [pV l (RW l) i,ah] (j:=i) hi;have sm:=Kd (z:=nth 0 l i) aa;have c1:¬(1000000000<nth 0 l i):=aa;have c2:¬(nth 0 l i < -1000000000):=aa;simp only[HC];simp[PJ,p1,p2];refine cd sm ?_
  have hli:cI 1 [D.int iK.i64 0] [(0,I (nth 0 l i))] [pV l (RW l) i,ah]=Wf ([di (nth 0 l i)],[pV l (RW l) i,ah]):=by
   simp[cI,dI,d8,dX,norm,di]
  simp[c1,c2,hli];refine abj (i:=i) (e:=1) (old:=(l.take i).map di++So (RW l-i) (.int .i64 0)) (ex:=true) aM hi ae ae ?_;rw[afY hi];have e1:((i+1:Nat):Int)=(i:Int)+1:=aa;have ih:=Un hz hn h0 hh K k (i+1) aa hK;rw[e1]at ih;simp(disch:=try exact cC)[List.set_cons_zero]
  simp_all[pV]
theorem ajb{l:aw}(hz:∀z∈l,-1000000000<=z∧z<=1000000000)(hn:RW l<1000000):Ds F.Br [aj sI l] (.tup [aj di l,I 0]):=by
 apply aj7;simp only[Br];have l1:bh (aj sI l)=Wf (I (RW l)):=by simp[aj,bh]
 have hn2:(8:Int)*(RW l:Int)<=281474976710656:=aa;simp[l1];refine UH (e:=0) (b0:=.none) rfl hn2 aa ?_;simp[l1,List.set_cons_zero]
 have lp1:=Un hz hn [(1,Bk.data 1 (So (RW l) (D.int .i64 0)) Th SM),(0,Bk.none)] rfl (aU [((.exit 0),λl4 h=>
  out (.tup [aj di l,I 0]) (.tup [(ge l4 0),(.d (.int .i64 0))]) h),
  (.ret,λl4 h=>
  out (.tup [aj di l,I 0]) (.tup [(ge l4 0),(ge l4 1)]) h)]) (RW l) 0 aa (by
   simp;have sb:=aew (f:=di) (l:=l) (h:=[pV l (RW l) (RW l),ah]) (s:=0) (e:=1) (ex:=true) (fr:=false) (by simp[pV]) (n:=RW l) (m:=RW l) (tot:=RW l) rfl (Z8 _) rfl
   have e:bY [pV l (RW l) (RW l),ah] [.ref 0 1 0 (RW l) (RW l) (RW l),I 0]=Wf ([aj di l,I 0],[pV l (RW l) (RW l),(0,Bk.none)].set 0 (1,Bk.data 1 (List.map di l) Th Th)):=by
    rw[bY,sb];rfl
   exact⟨_,by rw[bQ,e]⟩)
 trivial
def mS(k:Nat)(R:af):af:={R with pre:=R.pre++(R.r.take k).map sI,cap:=R.cap-k,r:=R.r.drop k}
theorem adz(k:Nat)(R:af):(mS k R).k=R.k:=by simp[mS,af.k]
theorem ady{h:Hp}{R:af}{k:Nat}(hR:h[R.s]?=Wf R.k)(hk:k<=RW R.r)(hc:RW R.r<=R.cap):gU h 1 R.v (Wf (I k)) Vc=Wf (mS k R).v:=by
 simp only[af.v,gU,af.get hR,eG];rw[ip ⟨aa,aa⟩]
 grind[mS,af.tot]
def dy(k:Nat)(l:List af):List af:=(l.filter λR=>pK k R.r).map (mS k)
theorem apP(k:Nat)(l:List af)(R:af):dy k (l++[R])=if pK k R.r=Th then dy k l++[mS k R]else dy k l:=by grind[dy]
theorem apO(k:Nat)(l:List af):(dy k l).map af.r=((l.map af.r).filter (pK k)).map (List.drop k):=by simp[dy,Wa,List.filter_map];rfl
theorem ajK(k:Nat)(r:aw):decide (Dy r≥(k:Int))=pK k r:=by
 have:∀f:Option Nat,decide ((match f with
  |some i=>(i:Int)
  |none=>-1)≥(k:Int))=(match f with
  |some i=>decide (k<=i)
  |none=>SM):=λf=>by
  cases f with
  |none=>grind
  |some i=>simp
 exact this _
def mV(o:Nat×Bk)(l:List af):Nat×Bk:=match l.getLast? with
 |none=>o
 |some R=>(o.1+RW l,.vars [R.v])
theorem Tn(o:Nat×Bk)(l:List af)(R:af):mV o (l++[R])=((mV o l).1+1,.vars [R.v]):=by grind[mV.eq_1]
def fU(h:Hp)(s1 s2:Nat)(o:Nat×Bk)(l:List af):Hp:=(h.set s1 o).set s2 (fT l)++So 2 ah
variable{gh h:Hp}{so eo L o' k s1 s2:Nat}{m:List af}
theorem OE(hs:s<RW h)(h1:s≠s1)(h2:s≠s2):(fU h s1 s2 o l)[s]?=h[s]?:=by rw[fU,List.getElem?_append_left ae,List.getElem?_set_ne (Ne.symm h2),List.getElem?_set_ne (Ne.symm h1)]
theorem aaW(hs1:s1<RW h)(h12:s1≠s2):(fU h s1 s2 o l)[s1]?=Wf o:=by rw[fU,List.getElem?_append_left ae,List.getElem?_set_ne (Ne.symm h12),List.getElem?_set_self hs1]
theorem aaV(hs2:s2<RW h):(fU h s1 s2 o l)[s2]?=Wf (fT l):=by rw[fU,List.getElem?_append_left ae,List.getElem?_set_self ae]
theorem apI{o':Nat×Bk}(hs1:s1<RW h)(h12:s1≠s2):(fU h s1 s2 o l).set s1 o'=fU h s1 s2 o' l:=by rw[fU,fU,List.set_append_left _ _ ae,V6 _ _ (Ne.symm h12),List.set_set]
theorem apH(hs2:s2<RW h):(fU h s1 s2 o l).set s2 (fT l')=fU h s1 s2 o l':=by rw[fU,fU,List.set_append_left _ _ ae,List.set_set]
theorem OF(T:Tr (RW h) gh h so eo L m)(ho:o'<=RW m)(hL:L<1000000)(hm:RW m<1000)(hk:k<=L)(hc:∀i,i<RW m->L<=(nR m i).cap)
  (hs1:s1<RW h) (hs2:s2<RW h) (h12:s1≠s2) (h1o:so≠s1) (h2o:so≠s2) (h1r:∀i,i<RW m->(nR m i).s≠s1) (h2r:∀i,i<RW m->(nR m i).s≠s2) (h0:Hp) (o0:Nat×Bk) (K:KL) :
  ∀(r i:Nat)(o:Nat×Bk),i+r=o'->o=mV o0 (dy k (m.take i))->K (.exit 0) [jw s2 (dy k (m.take o'))] (fU h s1 s2 (mV o0 (dy k (m.take o'))) (dy k (m.take o'))) ->
  lp (DG DA (RW h) (I k) (.ref so eo 0 o' (RW m) (RW m)) (I o')) [] h0 [jw s2 (dy k (m.take i)),I i] (fU h s1 s2 o (dy k (m.take i))) K
 | 0,i,o,e,hu,hK=>by
  apply aL;have:i=o':=aa;subst this;have PJ:¬((i:Int)<(i:Int)):=aa
  simp_all[DG]
 | r+1,i,o,e,hu,hK=>by
  apply aL;have PJ:((i:Int)<(o':Int)):=aa;have him:i<RW m:=aa;have⟨H,hH⟩:=bD (fU h s1 s2 o (dy k (m.take i)));have gO:H[so]?=Wf (eo,.vars (m.map af.v)):=by rw[hH,OE T.so h1o h2o];exact T.o
  have gR:H[(nR m i).s]?=Wf (nR m i).k:=by rw[hH,OE (T.sb i him) (h1r i him) (h2r i him)];exact T.r i him
  have gO':aH H so eo=.vars (m.map af.v):=by simp[aH,gO]
  have i1:bC H 1 (.ref so eo 0 o' (RW m) (RW m)) (I i)=Wf (qa so eo (RW m) i):=by
   simp only[bC,gO'];rw[ip ⟨ac,aa,aa⟩];simp[qa]
  have i2:ld1 H (qa so eo (RW m) i)=Wf (nR m i).v:=by
   simp only[qa,ld1,gO'];rw[ip ac,TJ _ af.z _ _ him]
  have hrl:(nR m i).r.length=L:=T.ln i him;have⟨hx,sn,_,_⟩:=PZ (h:=H) (R:=nR m i) ae (af.ok gR)
  have sn2:bY H [(nR m i).v]=Wf ([aj sI (nR m i).r],hx):=by
   have:bQ H (nR m i).v=Wf (.d (j6 (nR m i).r),hx):=by
    rw[show(nR m i).v=.ref (nR m i).s (nR m i).e (nR m i).pre.length (nR m i).r.length (nR m i).cap (nR m i).tot from rfl]at sn ⊢;simp[bQ,sn]
   simp only[bY,this];rfl
  have tk:m.take (i+1)=m.take i++[nR m i]:=by rw[List.take_succ_eq_append_getElem him,nR,gN _ _ _ him]
  rw[<-hH];simp only[DG];simp[PJ]
  have main:∀o1,o1=mV o0 (dy k (m.take (i+1)))->lp (DG DA (RW h) (I k) (.ref so eo 0 o' (RW m) (RW m)) (I o')) [] h0 [jw s2 (dy k (m.take (i+1))),I ((i:Int)+1)] (fU h s1 s2 o1 (dy k (m.take (i+1)))) K:=λo1 hu1=>by
   have:=OF T ho hL hm hk hc hs1 hs2 h12 h1o h2o h1r h2r h0 o0 K r (i+1) o1 aa hu1 hK;have e2:((i+1:Nat):Int)=(i:Int)+1:=aa;trivial
  apply cg;simp[i1,i2];refine xa sn2 (ajp (nR m i).r aa) ?_;rw[show(if fk (I (Dy (nR m i).r))=Th then H else hx)=H from rfl]
  have hge:aD .geq (I (Dy (nR m i).r)) (I k)=Wf (B (pK k (nR m i).r)):=by
   rw[<-ajK];rfl
  simp[hge];rw[tk,apP]at main;by_cases hb:pK k (nR m i).r=Th
  .rw[ip hb]at main;have sl:=ady (k:=k) gR aa ae;apply cg;simp[hb,sl];refine qx s1 ?_;simp;refine G9 (e:=o.1) (b:=o.2) (by grind[aaW]) (v:=(mS k (nR m i)).v) rfl ?_;rw[hH,apI hs1 h12];simp;refine qx s2 ?_;simp
   have hv:qC (fU h s1 s2 (o.1+1,.vars [(mS k (nR m i)).v]) (dy k (m.take i))) (.ref s1 (o.1+1) 0 1 1 1)=Wf (1,[(mS k (nR m i)).v]):=by
    simp[qC,aH,aaW hs1 h12]
   refine Hd (l:=dy k (m.take i)) (R:=mS k (nR m i)) ?_ hv (aaV hs2) ?_
   .have:RW (dy k (m.take i))<=RW (m.take i):=by simp only[dy,List.length_map];exact List.length_filter_le _ _
    grind
   rw[apH hs2];have hu2:((o.1+1,Bk.vars [(mS k (nR m i)).v]):Nat×Bk)=mV o0 (dy k (m.take i)++[mS k (nR m i)]):=by rw[Tn,hu]
   simp(disch:=omega) []
   grind[jX,lo]
  .rw[iN hb]at main;have hb':pK k (nR m i).r=SM:=by simpa using hb
   apply cg;simp(disch:=omega) [hb']
   grind[jX,lo]
theorem ahj{m:List af}(h:∀i j,i<RW m->j<RW m->i≠j->(nR m i).s≠(nR m j).s):m.Pairwise λa b=>a.s≠b.s:=by grind[List.pairwise_iff_getElem,gN]
theorem ahk{m:List af}(h:m.Pairwise λa b=>a.s≠b.s):∀i j,i<RW m->j<RW m->i≠j->(nR m i).s≠(nR m j).s:=by grind[List.pairwise_iff_getElem,gN]
theorem yn{m:List af}(hi:i<RW m):nR m i∈m:=by grind[gN]
theorem Bg{m:List af}{R:af}(hR:R∈m):∃i,i<RW m∧R=nR m i:=by obtain⟨i,hi,rfl⟩:=Wi hR;exact⟨i,hi,by rw[nR,gN _ _ _ hi]⟩
theorem apL(T:Tr (RW h) gh h so eo L m)(hk:k<=L)(hs1:s1<RW h)(hs2:s2<RW h)(h12:s1≠s2)(h1r:∀i,i<RW m->(nR m i).s≠s1)(h2r:∀i,i<RW m->(nR m i).s≠s2)
  {o:Nat×Bk} (hu:cj (RW h) o.2=Th) (ho:o'<=RW m) (h0:dy k (m.take o')≠[]) :
  Tr (RW h) (fU h s1 s2 o (dy k (m.take o'))) (fU h s1 s2 o (dy k (m.take o'))) s2 (RW (dy k (m.take o'))) (L-k) (dy k (m.take o')):=by
 have mem:∀R∈dy k (m.take o'),∃i,i<RW m∧R=mS k (nR m i):=λR hR=>by
  grind[dy,Bg]
 have hl:RW (fU h s1 s2 o (dy k (m.take o')))=RW h+2:=by simp[fU]
 refine⟨?_,λi hi=>?_,?_,λi hi=>?_,λi hi=>?_,λ_ _ _=>rfl,hs2,λi hi=>?_,?_,aa,λs hs hs'=>?_⟩
 .rw[aaV hs2,fT,iN h0]
 .grind[yn,adz,Tr.r,mS,OE]
 .apply ahk;simp only[dy,List.pairwise_map];exact((ahj T.nd).sublist (List.take_sublist _ _)).filter _
 .have⟨j,hj,e⟩:=mem _ (yn hi);rw[show nth af.z (dy k (m.take o')) i=nR (dy k (m.take o')) i from rfl,e];exact h2r j hj
 .grind[yn,Tr.ln,mS]
 .have⟨j,hj,e⟩:=mem _ (yn hi);rw[show nth af.z (dy k (m.take o')) i=nR (dy k (m.take o')) i from rfl,e];exact T.sb j hj
 .rw[fU,Yo];refine Bool.and_eq_true_iff.2 ⟨Cc (Cc T.u hu) (Du λR hR=>?_),A8⟩;obtain⟨j,hj,rfl⟩:=mem R hR;exact T.sb j hj
 .rw[fU,List.getElem?_append_right ae,List.getElem?_replicate,ip ae]
theorem GG{b:Nat}(ho:cj b o.2=Th)(hl:∀R∈l,R.s<b):cj b (mV o l).2=Th:=by
 cases h:l.getLast? with
 |none=>grind[mV]
 | some R=>
  simp[mV,h];exact EQ [R] λS hS=>by grind
theorem FM{h:Hp}(hx:h[i]?=Wf x):h.set i x=h:=by grind[List.set_getElem_self]
theorem apJ(T:Tr (RW h) gh h so eo L m)(ho:o'<=RW m)(hL:L<1000000)(hm:RW m<1000)(hk:k<=L)(hc:∀i,i<RW m->L<=(nR m i).cap)
  {one:Nat×Bk} (g1:h[s1]?=Wf one) (hu:cj (RW h) one.2=Th) (g2:h[s2]?=Wf ah) (h12:s1≠s2) (h1o:so≠s1) (h1r:∀i,i<RW m->(nR m i).s≠s1)
  {n f Bd o2:Nat} {z:Mz} (hB:Bd<=100000) (hn:n<=L-k) (h0:dy k (m.take o')≠[]) (hz:m6 Bd f n ((dy k (m.take o')).map af.r)=Wf (o2,z)) :
  ∃(h2:Hp)(m2:List af),CI Y F.ut [.ref so eo 0 o' (RW m) (RW m),I k,I n] h (.ref s2 (RW (dy k (m.take o'))) 0 o2 (RW (dy k (m.take o'))) (RW (dy k (m.take o')))) h2∧h2[s2]?=Wf (RW (dy k (m.take o')),.vars (m2.map af.v)) ∧
   (∀R∈m2,we h2 R∧RW R.r<=R.cap)∧m2.map af.r=z∧RW m2=RW (dy k (m.take o'))∧o2<=RW (dy k (m.take o')):=by
 have hs1:s1<RW h:=(List.getElem?_eq_some_iff.1 g1).1;have hs2:s2<RW h:=(List.getElem?_eq_some_iff.1 g2).1;have h2o:so≠s2:=λe=>by have:=T.o;grind
 have h2r:∀i,i<RW m->(nR m i).s≠s2:=λi hi e=>by grind[Tr.r,af.k]
 have⟨l,hl⟩:=bD (dy k (m.take o'))
 have hlm:∀R∈l,R.s<RW h∧L-k<=R.cap:=λR hR=>by
  simp[hl,dy,Zw,Xw]at hR;obtain⟨S,⟨hS,_⟩,rfl⟩:=hR;obtain⟨i,hi,rfl⟩:=Bg (Wo hS);exact⟨T.sb i hi,by grind[mS]⟩
 have hll:RW l<1000:=by
  have:RW (dy k (m.take o'))<=RW (m.take o'):=by simp only[dy,List.length_map];exact List.length_filter_le _ _
  rw[Zp]at this;rw[hl];omega
 have⟨oF,hoF⟩:=bD (mV one l);have huF:cj (RW h) oF.2=Th:=by rw[hoF];exact GG hu λR hR=>(hlm R hR).1
 have T0:=apL (o':=o') T hk hs1 hs2 h12 h1r h2r huF ho h0;rw[<-hl]at T0 h0 hz ⊢;have⟨m2,f1,f2⟩:=Na hz;have⟨⟨⟨h',T',e'⟩,hc'⟩,q1,q2⟩:=Nc (Q:=λR=>L-k<=R.cap) (λ_ _ h=>h) T0 (λi hi=>(hlm _ (yn hi)).2) f1;have Rg:RW (fU h s1 s2 oF l)=RW h+2:=by simp[fU]
 have fo:=Me hB aa aa hn (T0.up (c:=RW (fU h s1 s2 oF l)) aa (Z8 _)) f1 (T'.up (c:=RW (fU h s1 s2 oF l)) aa aa) e';refine⟨h'.take (RW h),m2,?_,?_,λR hR=>?_,f2,q2,q1⟩
 .apply Vk;simp only[ut]
  have st:h++So 2 (0,Bk.none)=fU h s1 s2 one (dy k (m.take 0)):=by
   simp only[fU,List.take_zero,dy,List.filter_nil,Yq];rw[FM g1,show fT []=(0,Bk.none)from rfl,FM g2]
  have l1:bh (.ref so eo 0 o' (RW m) (RW m))=Wf (I o'):=rfl;rw[st];simp[l1];refine lo (OF T ho hL hm hk hc hs1 hs2 h12 h1o h2o h1r h2r _ one _ o' 0 one aa aM ?_);rw[<-hl,<-hoF];simp;rw[jw,iN h0];refine gG fo ?_ ac;refine⟨rfl,Zz.2 λx hx=>Zz.1 T'.u x (Wo hx),.inl ⟨rfl,?_⟩⟩
  grind[under,Wn]
 .grind[Tr.o]
 .obtain⟨i,hi,rfl⟩:=Bg hR;refine⟨⟨SM,?_⟩,by grind[Tr.ln]⟩;rw[List.getElem?_take,ip (show(nR m2 i).s<RW h from T'.sb i hi)];exact T'.r i hi
abbrev jP:V:=.d aW
theorem U1{h:Hp}{n:Nat}(hu:(h.all λx=>cj (RW h) x.2)=Th):CI Y F.qW [jP,I n] h jP h:=by
 apply Vj;simp only[qW];simp;refine lo (aL ?_);simp only[DF];have l1:bh jP=Wf (I 0):=rfl;have s1:gU (h++[(0,Bk.none),(0,Bk.none),(0,Bk.none)]) 1 jP Vc (Wf (I 0))=Wf jP:=rfl;have fin:fA (RW h) jP h jP (h++[(0,Bk.none),(0,Bk.none),(0,Bk.none)]):=⟨ac,hu,.inl ⟨rfl,rfl⟩⟩;by_cases h0:(0:Int)<(n:Int)
 .simp(disch:=omega) [h0,l1,s1];omega
 .simp(disch:=omega) [h0,l1,s1];omega
theorem apK(T:Tr (RW h) gh h so eo L m)(ho:o'<=RW m)(hL:L<1000000)(hm:RW m<1000)(hk:k<=L)(hc:∀i,i<RW m->L<=(nR m i).cap)
  {one:Nat×Bk} (g1:h[s1]?=Wf one) (g2:h[s2]?=Wf ah) (h12:s1≠s2) (h1o:so≠s1) (h1r:∀i,i<RW m->(nR m i).s≠s1)
  {n:Nat} (h0:dy k (m.take o')=[]):CI Y F.ut [.ref so eo 0 o' (RW m) (RW m),I k,I n] h jP h:=by
 have hs1:s1<RW h:=(List.getElem?_eq_some_iff.1 g1).1;have hs2:s2<RW h:=(List.getElem?_eq_some_iff.1 g2).1;have h2o:so≠s2:=λe=>by have:=T.o;grind
 have h2r:∀i,i<RW m->(nR m i).s≠s2:=λi hi e=>by grind[Tr.r,af.k]
 apply Vk;simp only[ut]
 have st0:h++So 2 (0,Bk.none)=fU h s1 s2 one []:=by
  simp only[fU];rw[FM g1,show fT []=(0,Bk.none)from rfl,FM g2]
 have st:h++So 2 (0,Bk.none)=fU h s1 s2 one (dy k (m.take 0)):=by
  rw[st0];rfl
 have l1:bh (.ref so eo 0 o' (RW m) (RW m))=Wf (I o'):=rfl;rw[st];simp[l1];refine lo (OF T ho hL hm hk hc hs1 hs2 h12 h1o h2o h1r h2r _ one _ o' 0 one aa aM ?_);rw[h0,show mV one []=one from rfl,<-st0];simp
 have hu:((h++So 2 (0,Bk.none)).all λx=>cj (RW (h++So 2 (0,Bk.none))) x.2)=Th:=by
  refine Cx (b:=RW h) ac ?_;rw[Yo,T.u,A8];rfl
 refine gG (U1 hu) ?_ ac;exact⟨ac,T.u,.inl ⟨rfl,rfl⟩⟩
theorem MB{m z:Mz}{n Bd:Nat}(h0:0<n)(hn:n<=14)(hc:∀r∈m,RW r=n)(hm:RW m<1000)(hB:Bd<=100000)(hz:k8 Bd f n m=Wf z):Ds F.wz [kY m,I n] (kY z):=by
 apply ajY;simp only[wz];simp[k8]at hz;cases hw:m6 Bd f (RW m+n) (iE n m)with
 |none=>grind
 |some q=>
 have⟨o1,w⟩:=q;rw[hw]at hz;simp only at hz;refine Vy hn hc hm (So 18 ah) _ n 0 ah aa rfl rfl rfl λo hu ho=>?_
 have⟨l,hl⟩:=bD (fY n m n);have hln:RW l=n:=by rw[hl];simp
 have hl0:l≠[]:=λe=>by grind
 have hlr:l.map af.r=iE n m:=by rw[hl,fY,Ma];rfl
 have hnth:∀i,i<RW l->nth af.z l i=⟨i+5,1,[],[],false,RW m+n,oQ n m i⟩:=λi hi=>by
  have h1:nth [] ((List.range n).map (oQ n m)) i=oQ n m i:=by simp[nth,hln▸hi]
  grind[fY.eq_1,Mb,Js]
 have⟨H,hH⟩:=bD (kH l o);have hHl:RW H=19:=by rw[hH,kH];simp;omega
 have T:Tr (RW H) H H 3 (RW l) (RW m+n) l:=by
  refine⟨?_,λi hi=>?_,λi j hi hj hij=>?_,λi hi=>?_,λi hi=>?_,λ_ _ _=>rfl,aa,λi hi=>?_,?_,Z8 _,λs h1 h2=>by omega⟩
  .grind[kH,fT]
  .have h5:=Hl SM ((List.range n).map (oQ n m)) 5 [ah,ah,ah,fT l,o] (So (14-RW l) ah) rfl (nR l i) (by grind[fY.eq_1,yn]);rw[<-fY,<-hl]at h5;rw[hH];exact h5
  .grind
  .grind
  .grind[Js]
  .grind
  .rw[hHl,hH,kH];simp only[List.all_cons,Yo,Ga,A8,hu,X8]
   exact Du λR hR=>by
    grind[Bg]
 have⟨m1,f1,f2⟩:=Na (hlr▸hw);have⟨⟨⟨h1,T1,e1⟩,hQ⟩,q1,q2⟩:=Nc (Q:=λR=>RW m+n<=R.cap∧5<=R.s) (λ_ _ h=>h) T (λi hi=>by grind) f1;have fo:=Me hB aa aa (Z8 _) T f1 T1 e1;have l1:bh (kY m)=Wf (I (RW m)):=rfl;have e2:(RW m:Int)+(n:Int)=((RW m+n:Nat):Int):=aa;rw[<-hl,<-hH,jw,iN hl0];simp(disch:=omega) [l1];rw[e2]
 refine gG fo ?_ ac;simp[l1];rw[<-e1]at T1
 have g4:h1[4]?=Wf o:=by
  rw[T1.fr 4 aa (λi hi=>by grind),hH];rfl
 have g1:h1[1]?=Wf ah:=by
  rw[T1.fr 1 aa (λi hi=>by grind),hH];rfl
 have hr4:∀i,i<RW m1->(nR m1 i).s≠4:=λi hi=>by grind
 have hbr:(dy (RW m) (m1.take o1)).map af.r=((w.take o1).filter (pK (RW m))).map (List.drop (RW m)):=by rw[apO,List.map_take,f2]
 have hou:cj (RW h1) o.2=Th:=by rw[e1,hHl];exact hu
 rw[<-q2]at T1 ⊢;by_cases hb:dy (RW m) (m1.take o1)=[]
 ·have hz0:z=[]:=by
   rw[hb]at hbr;simp only[Ev,<-hbr,Yq,iT]at hz;exact(Option.some.inj hz).symm
  refine gG (apK T1 aa aa aa aa (λi hi=>(hQ i hi).1) g4 g1 aa aa hr4 (n:=n) hb) ?_ ac;rw[hz0];exact⟨_,rfl⟩
 ·have hz1:∃o2 w2,m6 Bd f n ((dy (RW m) (m1.take o1)).map af.r)=Wf (o2,w2)∧z=w2.take o2:=by
   have MT:((w.take o1).filter (pK (RW m))).map (List.drop (RW m))≠[]:=λe=>hb (by grind[List.map_eq_nil_iff])
   simp only[Ev,iN MT]at hz;rw[hbr];split at hz
   .grind
   .cases hz
  obtain⟨o2,w2,hf2,rfl⟩:=hz1;have⟨h2,m2,c1,c2,c3,c4,c5,c6⟩:=apJ (s1:=4) (s2:=1) T1 aa aa aa aa (λi hi=>(hQ i hi).1) g4 hou g1 aa aa hr4 hB aa hb hf2;refine gG c1 ?_ ac;rw[<-c5]at c2 c6 ⊢;have⟨h3,e3⟩:=RN (o:=o2) c2 (λR hR=>(c3 R hR).1) (λR hR=>(c3 R hR).2) (λe=>by grind) c6;rw[c4]at e3
  exact⟨h3,e3⟩
theorem agQ{z:Int}:Ds F.vN [I z] (B (wg z)):=by
 apply agJ;by_cases h : -1000000000<=z
 .by_cases h2:z<=1000000000
  .simp[vN,h,h2];exact fp (by simp[wg,h,h2])
  .simp[vN,h,h2];exact fp (by simp[wg,h,h2])
 .simp[vN,h];exact fp (by simp[wg,h])
def kt(l:aw):Int:=if 64<RW l∨(l.any λx=>!wg x)=Th then 4 else 0
theorem SG{l:aw}(hN:RW l<1000000000):Ds F.vO [aj di l] (I (kt l)):=by
 apply agL
 have co:=aaj (g:=F.AJ) (p:=λx=>!wg x) l aa (λx _=>by
  apply agM;simp[AJ];refine cd agQ ?_;simp)
 by_cases h:64<RW l
 .have g:(64:Int)<(RW l:Int):=aa;simp[vO,g];exact df (by simp[kt,h])
 .have g:¬(64:Int)<(RW l:Int):=aa;simp[vO,g];refine cd co ?_;cases e:l.any λx=>!wg x with
  |true=>simp;exact df (by simp[kt,e,or_true,iT])
  |false=>simp;exact df (by simp only[kt,e,h];rfl)
def qN(n:Int):cN->Int
 |[]=>0
 |r::m=>if kt r≠0 then kt r else if(RW r:Int)≠n then 5 else qN n m
theorem Rv{n:Int}(K:KL):∀(q a:cN),RW (a++q)<1000000->(∀r∈q,RW r<1000000)->(qN n q=0->K (.exit 0) [] [])->(qN n q≠0->K .ret [I (qN n q)] []) ->
  lp (F6 DA (I n) (bf (a++q)) (I (RW (a++q)))) [] [] [I (RW a)] [] K
 | [],a,h1,h2,k0,k1=>by
  apply aL;have PJ:¬((RW a:Int)<(RW (a++[]):Int)):=ac;simp only[F6];simp[PJ];exact k0 rfl
 | r::q,a,h1,h2,k0,k1=>by
  apply aL;have PJ:((RW a:Int)<(RW (a++r::q):Int)):=by simp;omega
  have rl:=h2 r ac;have DQ:RW a<1000000:=by simp at h1;omega
  have p1:bC [] 1 (bf (a++r::q)) (I (RW a))=Wf (.dptr ((a++r::q).map row) (RW a)):=by
   simp
  have p2:ld1 [] (.dptr ((a++r::q).map row) (RW a))=Wf (.d (row r)):=by
   simp
  simp only[F6];simp(disch:=try exact cC)[PJ,p1,p2];refine cd (SG (l:=r) aa) ?_;simp only[qN]at k0 k1;by_cases e1:kt r=0
  .rw[iN (by simpa using e1)]at k0 k1;by_cases e2:(RW r:Int)=n
   .rw[iN (by simpa using e2)]at k0 k1;have ih:=Rv K q (a++[r]) ae (λx hx=>h2 x ae) k0 k1;simp(disch:=omega) [e1,e2]
    simp_all
   .rw[ip e2]at k0 k1;simp[e1,e2]
    grind
  .rw[ip e1]at k0 k1;simp[e1]
   grind
theorem agD{n:Int}{m:cN}(hm:RW m<1000000)(hr:∀r∈m,RW r<1000000):Ds F.AK [bf m,I n] (I (qN n m)):=by
 apply agN;have l1:bh (bf m)=Wf (I (RW m)):=rfl;simp only[AK];simp[l1]
 have:=Rv (n:=n) (aU [((.exit 0),λl2 h=>out (I (qN n m)) (.d (.int .i64 0)) h),(.ret,λl2 h=>out (I (qN n m)) (ge l2 0) h)]) m [] cU hr
  (λe=>by simp_all) (λe=>df rfl)
 trivial
def qV(n:Int)(m:cN):Int:=if n<0∨12<n then 3 else if 12<RW m then 4 else qN n m
theorem Vh{n:Int}{m:cN}(hm:RW m<1000000)(hr:∀r∈m,RW r<1000000):Ds F.yG [I n,bf m] (I (qV n m)):=by
 apply akj;have l1:bh (bf m)=Wf (I (RW m)):=rfl;simp only[yG];by_cases h1:n<0
 .simp[h1]
  grind[df,qV]
 .by_cases h2:12<n
  .simp[h1,h2]
   grind[df,qV]
  .by_cases h3:12<RW m
   .have h3':(12:Int)<(RW m:Int):=aa;simp[h1,h2,l1,h3']
    grind[df,qV]
   .have h3':¬(12:Int)<(RW m:Int):=aa;simp[h1,h2,l1,h3'];refine cd (agD hm hr) ?_ aM
    grind[df,qV]
theorem YD{g:FuncId}(hg:∀x y:aw,RW x<1000000->RW y<1000000->CP Y g [.d (row x),.d (row y)] (B (decide (x=y))))(K:KL):∀(q q' a a':cN),RW a=RW a'->RW q=RW q'->RW (a++q)<1000000 ->
  (∀r∈q,RW r<1000000)->(∀r∈q',RW r<1000000)->(q=q'->K (.exit 0) [] [])->(q≠q'->K .ret [B SM] []) ->
  lp (FB DA (bf (a'++q')) (.fn g [] []) (bf (a++q)) (I (RW (a++q)))) [] [] [I (RW a)] [] K
 | [],[],a,a',e1,e2,h1,h2,h3,k0,k1=>by
  apply aL;have PJ:¬((RW a:Int)<(RW (a++[]):Int)):=ac;simp only[FB];simp[PJ]
  grind
 |[],_::_,a,a',e1,e2,h1,h2,h3,k0,k1=>by simp at e2
 |_::_,[],a,a',e1,e2,h1,h2,h3,k0,k1=>by simp at e2
 | x::q,y::q',a,a',e1,e2,h1,h2,h3,k0,k1=>by
  apply aL;have PJ:((RW a:Int)<(RW (a++x::q):Int)):=by simp;omega
  have DQ:RW a<1000000:=by simp at h1;omega
  have p1:bC [] 1 (bf (a++x::q)) (I (RW a))=Wf (.dptr ((a++x::q).map row) (RW a)):=ac;have p2:ld1 [] (.dptr ((a++x::q).map row) (RW a))=Wf (.d (row x)):=ac;have p3:bC [] 1 (bf (a'++y::q')) (I (RW a))=Wf (.dptr ((a'++y::q').map row) (RW a)):=by rw[e1];simp
  have p4:ld1 [] (.dptr ((a'++y::q').map row) (RW a))=Wf (.d (row y)):=by rw[e1];simp
  simp only[FB];simp(disch:=try exact cC)[PJ,p1,p2,p3,p4];refine cd (hg x y (h2 x ac) (h3 y ac)) ?_;by_cases e:x=y
  .subst e
   have ih:=YD hg K q q' (a++[x]) (a'++[x]) ae ae ae (λr hr=>h2 r ae) (λr hr=>h3 r ae)
    (λg=>k0 (by rw[g])) (λg=>k1 (λg2=>g ae))
   simp(disch:=omega) []
   simp_all
  .simp[e]
   grind
theorem YC{g:FuncId}(hg:∀x y:aw,RW x<1000000->RW y<1000000->CP Y g [.d (row x),.d (row y)] (B (decide (x=y)))){m m':cN}(hm:RW m<1000000)(hm':RW m'<1000000)
  (h2:∀r∈m,RW r<1000000) (h3:∀r∈m',RW r<1000000):Ds F.xE [bf m,bf m',.fn g [] []] (B (decide (m=m'))):=by
 apply ae2;have l1:bh (bf m)=Wf (I (RW m)):=rfl;have l2:bh (bf m')=Wf (I (RW m')):=rfl;simp only[xE];by_cases e:RW m=RW m'
 .have e':(RW m:Int)=(RW m':Int):=aa;simp[l1,l2,e'];rw[<-e']
  have:=YD hg (aU [((.exit 0),λl5 h=>out (B (decide (m=m'))) (.d (.bool Th)) h),(.ret,λl5 h=>out (B (decide (m=m'))) (ge l5 0) h)]) m m' [] [] rfl e cU h2 h3
   (λg=>fp (by simp[g])) (λg=>fp (by simp[g]))
  trivial
 .have e':¬(RW m:Int)=(RW m':Int):=aa;simp[l1,l2,e'];exact fp (by simp;intro g;exact e (by rw[g]))
theorem GY(a b:Nat):Nat.beq a b=decide (a=b):=by grind[Zk,Xs]
def jR:Nat->List Q->Nat
 |d,[]=>d
 |d,x::s=>jR (Nat.lcm d x.2) s
def fO(d:Nat):aw->List Q->List (Int×Int)
 |p::ps,x::s=>if x.1=0 then fO d ps s else(p,x.1*((d/x.2:Nat):Int))::fO d ps s
 |_,_=>[]
def jJ(t:Int×Int):D:=di t.1
def jV(t:Int×Int):D:=.str (itoa t.2)
def mX:V:=.d aW
def pR(x y:V)(d:bA)(b4 b5:Nat×Bk):Hp:=[(1,.vars [mX,mX,.d (.str [])]),(1,.vars [x,y,.d (.str d)]),ah,ah,b4,b5]
theorem TT{b:Nat}(ha:0<a)(hb:0<b):ay (Nat.lcm a b)<=ay a+ay b:=
 Z1 (ir (Xk (Yk ha hb) (Nat.lcm_dvd_mul a b))) wn
theorem Iz:∀{s:List Q}{d:Nat},0<d->(∀x∈s,0<x.2)->0<jR d s
 |[],_,h,_=>h
 |x::s,d,h,hs=>Iz (s:=s) (Nat.lcm_pos h (hs x ac)) λy hy=>hs y ae
theorem IA:∀{s:List Q}{d:Nat},d∣jR d s∧∀x∈s,x.2∣jR d s
 |[],d=>⟨Nat.dvd_refl _,λx hx=>by simp at hx⟩
 | x::s,d=>by
  have⟨h1,h2⟩:=IA (s:=s) (d:=Nat.lcm d x.2);refine⟨Nat.dvd_trans (Nat.dvd_lcm_left _ _) h1,λy hy=>?_⟩;rcases Zy.1 hy with rfl|hy
  .exact Nat.dvd_trans (Nat.dvd_lcm_right _ _) h1
  .exact h2 y hy
theorem ZN{K:Nat}:∀{s:List Q}{d D:Nat},0<d->(∀x∈s,0<x.2)->ay d<=D->fJ K s->ay (jR d s)<=D+K*RW s
 |[],d,D,_,_,h,_=>by trivial
 | x::s,d,D,hd,hp,h,hs=>by
  have hx:=(hs x ac).2.2;have h1:=TT hd (hp x ac);have:=ZN (s:=s) (d:=Nat.lcm d x.2) (D:=D+K) (Nat.lcm_pos hd (hp x ac)) (λy hy=>hp y ae) aa (λy hy=>hs y ae)
  grind[jR,Nat.mul_succ]
theorem PX{s:List Q}{K:Nat}(hN:RW s<1000000)(hK:fJ K s)(k:KL)(d0:bA):∀(q a:List Q)(d D:Nat),a++q=s->0<d->ay d<=D->D+K*RW q<400000->K<400000 ->
  k (.exit 0) [] (pR mX mX (aA (jR d q)) ah ah) ->
  lp (FE DA (.ptr 1 1 0 3) (aX s) (I (RW s))) [2] (pR mX mX d0 ah ah) [I (RW a)] (pR mX mX (aA d) ah ah) k
 | [],a,d,D,ha,hd,hD,hb,hK4,hk=>by
  simp at ha;subst ha;apply aL;simp[FE];exact hk
 | x::q,a,d,D,ha,hd,hD,hb,hK4,hk=>by
  have DQ:RW a<RW s:=by subst ha;simp
  have⟨x1,x2⟩:=hK x ae;have hx:nth ([],[]) (s.map tx) (RW a)=tx x:=by subst ha;exact qd ..
  have i1:=λh:Hp=>lX bb dZ (s.map tx) h (k:=.i64) (i:=(RW a:Int)) aa ae
  have i2:=λh:Hp=>lV bb dZ ([],[]) (s.map tx) h (j:=RW a) ae
  have g1:(RW a:Int)<(RW s:Int):=aa;simp[hx,Int.toNat_natCast,bb,Zv,Yq]at i1 i2;have hx2:=x2.2;have lc:=acj (a:=d) (b:=x.2) hd x1.1 aa aa;have lc':Ds F.xh [S (aA d),S (tx x).2] (S (aA (Nat.lcm d x.2))):=lc;have hl:=TT hd x1.1;rw[List.length_cons,Nat.mul_succ]at hb
  have ih:=PX hN hK k d0 q (a++[x]) (Nat.lcm d x.2) (D+K) ae (Nat.lcm_pos hd x1.1) aa aa hK4 hk;apply aL;simp[FE,aX,i1,i2,g1,bb,pR];refine cd lc' ?_;simp(disch:=omega) [clean,fK,gZ,iq,offB,fC,dl,GY,mX]
  simp_all[pR,aX,mX]
theorem Sq(Pc:ax)(i:Nat)(x0 x:Nat×Bk)(h0 h:Hp):dl Pc i (x0::h0) (x::h)=(if fC Pc i then x else(x0.1,.none))::dl Pc (i+1) h0 h:=rfl
theorem yh(Pc:ax)(i:Nat)(x:Nat×Bk)(h:Hp):iq Pc i (x::h)=((!fC Pc i||offB Pc x.2)&&iq Pc (i+1) h):=rfl
theorem Sn(Pc:ax)(i:Nat)(h:Hp):dl Pc i [] h=h:=by rfl
theorem yg(Pc:ax)(i:Nat):iq Pc i []=Th:=rfl
theorem AY(Pc:ax)(l:bq):offB Pc (.vars l)=fK Pc l:=rfl
theorem TD(Pc:ax):offB Pc .none=Th:=rfl
theorem abf(a:Acc){L:Nat}{cells:bF}{h:Hp}{e o tot:Nat}(hs:h[a.s]?=Wf (a.b L cells))(MT:a.s≠s)(hb:ownB h s e tot=Th):Ey h (a.v L cells) (.ptr s e o tot)=Th:=by
 cases L with
 |zero=>exact hb
 | succ L=>
  have hd:AU h a.s (a.e+1) (RW cells)=Th:=by
   have hg:aH h a.s (a.e+1)=.data a.n cells SM SM:=by simp[aH,hs,Acc.b,iT]
   unfold AU;rw[hg];exact Xs _
  show(!(Nat.beq a.s s)&&AU h a.s (a.e+1) (RW cells)&&ownB h s e tot)=Th
  grind[GY]
theorem abu(a:Acc)(Pc:ax)(L:Nat)(c:bF)(hn:fC Pc a.s=Th):gZ Pc (a.v L c)=Th:=by
 cases L with
 |zero=>rfl
 |succ L=>exact hn
theorem abv(a:Acc)(Pc:ax)(L:Nat)(c:bF)(h0:offB Pc a.b0=Th):offB Pc (a.b L c).2=Th:=by
 cases L with
 |zero=>exact h0
 |succ L=>rfl
def mh:Acc:=⟨4,0,1,.none⟩
def mP:Acc:=⟨5,0,1,.none⟩
def vg(ts:List (Int×Int))(d:bA):Hp:=pR (mh.v (RW ts) (ts.map jJ)) (mP.v (RW ts) (ts.map jV)) d (mh.b (RW ts) (ts.map jJ)) (mP.b (RW ts) (ts.map jV))
theorem VH{z:Int}:itoa z=[48]↔z=0:=by
 have e:itoa 0=[48]:=k9;constructor
 .intro h;exact By (by rw[h,e])
 grind
theorem JK{p:aw}{s:List Q}{K d:Nat}(hN:RW s<1000000)(hp:RW p=RW s)(hK:fJ K s)(hK4:K<100000)(hd:0<d)(hdL:ay d<100000)(hdv:∀x∈s,x.2∣d)(k:KL)(T0:List (Int×Int)):∀(q a:List Q)(ps pa:aw)(ts:List (Int×Int)),a++q=s->pa++ps=p->RW pa=RW a->RW ts<=RW a ->
  k (.exit 2) [] (vg (ts++fO d ps q) (aA d)) ->
  lp (CS DA (aj di p) (.ptr 1 1 0 3) (aX s) (I (RW s))) [3] (vg T0 (aA d)) [I (RW a)] (vg ts (aA d)) k
 | [],a,ps,pa,ts,ha,hpa,hl,htl,hk=>by
  simp at ha;subst ha
  have:ps=[]:=by
   have:RW pa+RW ps=RW p:=by rw[<-hpa];simp
   exact Zn aa
  subst this;apply aL
  simp_all[CS,fO]
 | x::q,a,[],pa,ts,ha,hpa,hl,htl,hk=>by
  exfalso;have h1:RW pa=RW p:=by rw[<-hpa];simp
  have h2:RW a+(RW q+1)=RW s:=by rw[<-ha];simp
  omega
 | x::q,a,pp::ps,pa,ts,ha,hpa,hl,htl,hk=>by
  have DQ:RW a<RW s:=by subst ha;simp
  have⟨x1,x2⟩:=hK x ae;have hx:nth ([],[]) (s.map tx) (RW a)=tx x:=by subst ha;exact qd ..
  have i1:=λh:Hp=>lX bb dZ (s.map tx) h (k:=.i64) (i:=(RW a:Int)) aa ae
  have i2:=λh:Hp=>lV bb dZ ([],[]) (s.map tx) h (j:=RW a) ae
  have g1:(RW a:Int)<(RW s:Int):=aa;simp[hx,Int.toNat_natCast,bb,Zv,Yq]at i1 i2;have hpx:nth 0 p (RW a)=pp:=by rw[<-hl];subst hpa;simp
  have j1:=λh:Hp=>mH di p h (k:=.i64) (i:=(RW a:Int)) aa aa
  have j2:=λh:Hp=>mZ di 0 p h (j:=RW a) aa
  rw[hpx]at j2;simp[Int.toNat_natCast]at j1;apply aL;by_cases hz:x.1=0
  .have hz':(tx x).1=[48]:=VH.2 hz;have ih:=JK hN hp hK hK4 hd hdL hdv k T0 q (a++[x]) ps (pa++[pp]) ts ae ae ae ae (by grind[fO]);have o1:=abu mh [3] (RW ts) (ts.map jJ) rfl;have o2:=abu mP [3] (RW ts) (ts.map jV) rfl;have o3:=abv mh [3] (RW ts) (ts.map jJ) rfl;have o4:=abv mP [3] (RW ts) (ts.map jV) rfl
   simp only[vg,pR]at ih;simp[CS,aX,i1,i2,g1,bb,vg,pR,hz'];apply cg;simp[i1,i2,hz',bb];apply cg;simp(disch:=omega) [clean,fK,gZ,yh,yg,AY,TD,fC,Sq,Sn,GY,o1,o2,o3,o4,mX]
   simp_all[aX,mX]
  .have hz':(tx x).1≠[48]:=λe=>hz (VH.1 e)
   have ih:=JK hN hp hK hK4 hd hdL hdv k T0 q (a++[x]) ps (pa++[pp]) (ts++[(pp,x.1*((d/x.2:Nat):Int))]) ae ae ae ae (by grind[fO]);have hx1:=x2.1;have hx2:=x2.2;have dm:=zH (a:=d) (b:=x.2) x1.1 aa aa;have dm':Ds F.ji [S (aA d),S (tx x).2] (.tup [S (aA (d/x.2)),S (aA (d%x.2)),I 0]):=dm
   have hq:ay (d/x.2)<=ay d:=ir (Yv _ _);have ml:=xj (z:=x.1) (w:=((d/x.2:Nat):Int)) aa ae;rw[pu]at ml;have ml':Ds F.gv [S (tx x).1,S (aA (d/x.2))] (S (itoa (x.1*((d/x.2:Nat):Int)))):=ml;have⟨K1,hK1⟩:∃K1,K1=x.1*((d/x.2:Nat):Int):=⟨_,rfl⟩;rw[<-hK1]at ml' ih;simp only[vg,pR]at ih
   simp[CS,aX,i1,i2,g1,bb,vg,pR,hz'];apply cg;simp[i1,i2,hz',bb];apply cg;have hz2:(!(tx x).1 == [48])=Th:=by simp[hz']
   simp[hz2];refine cd dm' ?_ aM;simp(disch:=try exact cC);refine Kf aM ?_;have li1:∀(z:Int)(H:Hp),cI 1 [D.int iK.i64 0] [(0,I z)] H=Wf ([di z],H):=λz H=>by rfl
   have li2:∀(z:bA)(H:Hp),cI 1 [D.str []] [(0,S z)] H=Wf ([D.str z],H):=λz H=>by rfl
   have cP:RW (ts.map jJ)=RW ts*1:=ac;have cK:RW (ts.map jV)=RW ts*1:=ac;have eP:∀c,mh.v (RW ts+1) c=.ref 4 1 0 (RW ts+1) (RW ts+1) (RW c):=λc=>rfl
   have eK:∀c,mP.v (RW ts+1) c=.ref 5 1 0 (RW ts+1) (RW ts+1) (RW c):=λc=>rfl
   simp[hpx,li1];refine CL ?_ ?_
   .simp[List.all_cons,List.all_nil,X8,Z7];exact⟨abf mh rfl am rfl,abf mh rfl am rfl⟩
   refine kM mh (k:=1) aa rfl cP aM rfl (λt e=>by cases e) aa am ?_;have sP:mh.s=4:=rfl;have sK:mP.s=5:=rfl;simp[sP,eP];refine Kf rfl ?_;refine Kf rfl ?_;refine cd ml' ?_ aM;simp[li2];refine kM mP (k:=1) aa rfl cK aM rfl (λt e=>by cases e) aa am ?_;simp(disch:=omega) [sK,eK]
   have eP':∀c,mh.b (RW ts+1) c=(1,.data 1 c SM SM):=λc=>rfl
   have eK':∀c,mP.b (RW ts+1) c=(1,.data 1 c SM SM):=λc=>rfl
   have z1:mh.e=0:=rfl;have z2:mP.e=0:=rfl;have z3:mh.n=1:=rfl;have z4:mP.n=1:=rfl;simp[clean,fK,gZ,yh,yg,AY,TD,offB,fC,Sq,Sn,GY,mX,z1,z2,z3,z4,sP];simp only[aX,List.length_append,List.length_cons,List.length_nil,mX,Yn,Zv,Yq,eP,eK,eP',eK',Zh,List.length_map]at ih;exact ih
def lN(ts:List (Int×Int))(d:Nat):V:=.agg [.d (.sl (RW ts) (ts.map jJ)),.d (.sl (RW ts) (ts.map jV)),S (aA d)]
theorem E4{d:Nat}:∀(p:aw)(s:List Q),RW (fO d p s)<=RW p
 |[],s=>by simp[fO]
 |p::ps,[]=>by simp[fO]
 | p::ps,x::s=>by
  have:=E4 (d:=d) ps s
  grind[fO]
theorem P8{p:aw}{s:List Q}{K:Nat}(hN:RW s<1000000)(hp:RW p=RW s)(hK:fJ K s)(hK4:1+K*RW s<100000)(hK5:K<100000):Ds F.vA [aj di p,aX s] (lN (fO (jR 1 s) p s) (jR 1 s)):=by
 apply afv;have hpos:∀x∈s,0<x.2:=λx hx=>(hK x hx).1.1
 have hd:=Iz (s:=s) (d:=1) am hpos;have hdL:=ZN (K:=K) (s:=s) (d:=1) (D:=1) am hpos (eC am am) hK;have ls:=Bo s
 have e0:([(1,Bk.vars [V.d aW,V.d aW,V.d (D.str [])]),(1,Bk.vars [V.d aW,V.d aW,V.d (D.str [49])]),(0,Bk.none),(0,Bk.none),(0,Bk.none),(0,Bk.none)]:Hp)=pR mX mX (aA 1) ah ah:=by rw[ov];rfl
 have okP:∀(L:Nat)(c:bF),okV (mh.v L c)=Th:=λL c=>by cases L<;>rfl
 have okK':∀(L:Nat)(c:bF),okV (mP.v L c)=Th:=λL c=>by cases L<;>rfl
 simp[vA,ls];rw[e0];refine lo (PX (K:=K) hN hK _ (aA 1) s [] 1 1 rfl am (eC am am) aa aa ?_);simp[ls];refine lo (JK (K:=K) hN hp hK hK5 hd aa (λx hx=>(IA (s:=s) (d:=1)).2 x hx) _ [] s [] p [] [] rfl rfl rfl ac ?_);generalize hts:fO (jR 1 s) p s=ts;generalize jR 1 s=dn
 have⟨h',q1,q2⟩:=mO mh (L:=RW ts) (cells:=ts.map jJ) (h:=[(1,.vars [mh.v (RW ts) (ts.map jJ),mP.v (RW ts) (ts.map jV),S (aA dn)]),(1,.vars [mh.v (RW ts) (ts.map jJ),mP.v (RW ts) (ts.map jV),S (aA dn)]),ah,ah,mh.b (RW ts) (ts.map jJ),mP.b (RW ts) (ts.map jV)]) rfl (by simp[mh])
 have q3:h'[5]?=Wf (mP.b (RW ts) (ts.map jV)):=by
  rcases q2 with⟨_,rfl⟩|⟨_,rfl⟩
  .rfl
  .rfl
 have⟨h'',r1,_⟩:=mO mP (L:=RW ts) (cells:=ts.map jV) q3 (by simp[mP]);simp only[List.nil_append];simp[vg,pR,okP,okK'];refine⟨h'',?_⟩
 simp_all[bQ,bY,lN]
theorem aoG(A B:Prop):aQ (.d (.bool SM)) A B=B:=rfl
theorem aoF(A B:Prop):aQ (.d (.bool Th)) A B=A:=rfl
def iw(ts:List (Int×Int))(d:Nat):bF:=[.sl (RW ts) (ts.map jJ),.sl (RW ts) (ts.map jV),.str (aA d)]
theorem abq(ts:List (Int×Int))(d:Nat):Ds F.tQ [lN ts d] (.fn F.rZ [] [.dptr (iw ts d) 0]):=by apply afs;simp[tQ,lN];exact⟨_,rfl⟩
def qE(ts:List (Int×Int)):List au:=ts.map λt=>[.int .i64 t.1,.string ⟨⟨itoa t.2⟩⟩]
theorem UP:∀ts:List (Int×Int),lits (ts.map jJ)=Wf (ts.map λt=>.int .i64 t.1)
 |[]=>rfl
 | t::ts=>by
  have:=UP ts;simp[Zv,lits,this,jJ,di]
theorem UQ:∀ts:List (Int×Int),lits (ts.map jV)=Wf (ts.map λt=>.string ⟨⟨itoa t.2⟩⟩)
 |[]=>rfl
 | t::ts=>by
  have:=UQ ts;simp[Zv,lits,this,jV]
theorem O8(hN:RW ts<=700000)(d:Nat):CH Y.seq (.fn F.rZ [] [.dptr (iw ts d) 0])=Wf (qE ts):=by
 show zB (.sl (RW ts) (ts.map jJ)) (.sl (RW ts) (ts.map jV))=_
 have hN':RW ts<4611686018427387904:=aa;simp only[zB,xJ,UP,UQ,List.length_map,hN',and_self,iT];congr 1;clear hN hN'
 induction ts with
 |nil=>rfl
 |cons t ts ih=>simp only[Zv,List.zip_cons_cons,qE]at ih ⊢;rw[ih]
def lg(p:Int)(n:Nat):Nat:=(Bi p.toNat n).getD 0
def dW(n:Nat):List (Int×Int)->Int×Int->Int×Int
 |[],a=>a
 | t::ts,a=>
  let x:Int:=lg t.1 n
  let y:Int:=if t.1=2 then x else x+1
  dW n ts (if t.2<0 then(a.1+y*t.2,a.2+x*t.2)else(a.1+x*t.2,a.2+y*t.2))
def Md(n:Nat)(ts:List (Int×Int)):Prop:=∀t∈ts,2<=t.1∧t.1<1000000∧(Bi t.1.toNat n).isSome=Th∧ay (lg t.1 n)<=1500
def oV(ts:List (Int×Int))(d:Nat)(n:Nat)(lo hi:Int):Hp:=[(1,.vars ((iw ts d).map .d)),(1,.vars [I n]),(1,.vars [S (itoa lo)]),(1,.vars [S (itoa hi)])]
theorem Ns{n d:Nat}{tt:List (Int×Int)}(hn:n<=3900)(k:Exit->Hp->Prop)(h0:Hp)(hh:RW h0=4):∀(ts:List (Int×Int))(lo hi:Int)(B:Nat),Md n ts->(∀t∈ts,ay t.2.natAbs<=100000)->B+RW ts<=900000->101502<=B->ay lo.natAbs<=B->ay hi.natAbs<=B ->
  k .normal (oV tt d n (dW n ts (lo,hi)).1 (dW n ts (lo,hi)).2) ->
  rg 2 (FD DA (.ptr 1 1 0 1) (.ptr 2 1 0 1) (.ptr 3 1 0 1)) [] h0 k (qE ts) (oV tt d n lo hi)
 |[],lo,hi,B,hl,hk,hb,hB,h1,h2,hkk=>by simpa[qE,rg,dW]using hkk
 | t::ts,lo,hi,B,hl,hk,hb,hB,h1,h2,hkk=>by
  have⟨l1,l2,l3,l4⟩:=hl t ac;have hk1:=hk t ac;have⟨v,hv⟩:=Option.isSome_iff_exists.1 l3;have hlg:lg t.1 n=v:=by unfold lg;rw[hv];rfl
  have⟨p,hp⟩:∃p:Nat,t.1=p:=⟨t.1.toNat,aa⟩;rw[hp,Int.toNat_natCast]at hv;have lo_:=ajj (p:=p) (n:=n) (v:=v) aa aa hn hv;rw[<-hp]at lo_;rw[hlg]at l4;have hv1:ay (v+1)<=1501:=wq l4 (Z1 (eC (n:=1) (d:=1) am am) am);have sg0:=tT t.2
  have hx:ay ((v:Int)*t.2).natAbs<=101501:=by
   have:=ub (z:=(v:Int)) (w:=t.2);rw[Int.natAbs_natCast]at this;omega
  have hy:ay (((v+1:Nat):Int)*t.2).natAbs<=101501:=by
   have:=ub (z:=((v+1:Nat):Int)) (w:=t.2);rw[Int.natAbs_natCast]at this;omega
  simp[dW,hlg]at hkk;simp[qE,Zv];refine Sl rfl ?_;have eL:([.int .i64 t.1,.string ⟨⟨itoa t.2⟩⟩]:au).map (λv=>V.d (dL v))=[I t.1,S (itoa t.2)]:=rfl;rw[eL];have ad:=zJ (a:=v) (b:=1) aa (Zf (eC (n:=1) (d:=1) am am) am);rw[ov]at ad
  have hw:∀w:Nat,ay w<=1501->Ds F.gv [S (aA w),S (itoa t.2)] (S (itoa ((w:Int)*t.2))):=λw hw=>by
   have:=xj (z:=(w:Int)) (w:=t.2) (by rw[Int.natAbs_natCast];omega) aa
   rwa [pu]at this
  have hA:∀z w:Int,ay z.natAbs<=B->ay w.natAbs<=101501->Ds F.jj [S (itoa z),S (itoa w)] (S (itoa (z+w)))∧ay (z+w).natAbs<=B+1:=λz w hz hw=>⟨zI (by simp at hb;omega) (by simp at hb;omega),LO hz aa⟩
  have tail:∀w:Nat,ay w<=1501->ay ((w:Int)*t.2).natAbs<=101501->(w:Int)=(if t.1=2 then(v:Int)else v+1)->jn (λl4 h=>
    bp DA.p h (.fn F.gv [] []) [S (aA v),S (itoa t.2)] λv6 h=>
    bp DA.p h (.fn F.gv [] []) [(ge l4 0),S (itoa t.2)] λv7 h=>
    bp DA.p h (.fn F.kR [] []) [S (itoa t.2)] λv8 h=>
    bnd (aD .lss v8 (.d (.int .i64 0))) λv9=>
    jn (λl10 h=>
     bnd (ld1 h (.ptr 2 1 0 1)) λv12=>
     bp DA.p h (.fn F.jj [] []) [v12,(ge l10 0)] λv13 h=>
     bnd (ld1 h (.ptr 3 1 0 1)) λv14=>
     bp DA.p h (.fn F.jj [] []) [v14,(ge l10 1)] λv15 h=>
     aS h 1 (.ptr 2 1 0 1) v13 λ_ h=>
     aS h 1 (.ptr 3 1 0 1) v15 λ_ h=>
     iq [] 0 h=Th∧rg 2 (FD DA (.ptr 1 1 0 1) (.ptr 2 1 0 1) (.ptr 3 1 0 1)) [] h0 k (qE ts) (dl [] 0 h0 h)) λq11=>
     aQ v9 (
      q11 [v7,v6] h) (
      q11 [v6,v7] h)) λq5=>q5 [S (aA w)] (oV tt d n lo hi):=by
   intro w hw1 hw2 hw3;have m1:=hw v aa;have m2:=hw w hw1;rw[<-hw3]at hkk;rw[DK (l:=[S (aA w)]) (h:=oV tt d n lo hi) (λq=>rfl)];simp[oV,iw];refine cd m1 ?_ (by simp[bY,bQ]);simp;refine cd m2 ?_ (by simp[bY,bQ]);simp;refine cd sg0 ?_ (by simp[bY,bQ]);have hsg:eU t.2<0↔t.2<0:=by unfold eU;split<;>(try split)<;>omega
   by_cases hneg:t.2<0
   .have hs:eU t.2<0:=hsg.2 hneg;rw[ip hneg]at hkk;have⟨a1,b1⟩:=hA lo _ h1 hw2;have⟨a2,b2⟩:=hA hi _ h2 hx;have ih:=Ns (tt:=tt) (d:=d) hn k h0 hh ts _ _ (B+1) (λt ht=>hl t (by simp[ht])) (λt ht=>hk t (by simp[ht])) (by simp at hb;omega) aa b1 b2 hkk;simp[hs];apply cg;simp;refine cd a1 ?_ (by simp[bY,bQ]);simp
    refine cd a2 ?_ (by simp[bY,bQ]);have Rg:∀x:Hp,RW x=4->dl [] 0 h0 x=x:=λx hx=>x8 0 h0 x aa
    simp[yh,yg,fC,AY,fK,gZ,offB,Rg];simpa[oV,iw]using ih
   .have hs:¬eU t.2<0:=λh=>hneg (hsg.1 h)
    rw[iN hneg]at hkk;have⟨a1,b1⟩:=hA lo _ h1 hx;have⟨a2,b2⟩:=hA hi _ h2 hw2;have ih:=Ns (tt:=tt) (d:=d) hn k h0 hh ts _ _ (B+1) (λt ht=>hl t (by simp[ht])) (λt ht=>hk t (by simp[ht])) (by simp at hb;omega) aa b1 b2 hkk;simp[hs];apply cg;simp;refine cd a1 ?_ (by simp[bY,bQ]);simp;refine cd a2 ?_ (by simp[bY,bQ])
    have Rg:∀x:Hp,RW x=4->dl [] 0 h0 x=x:=λx hx=>x8 0 h0 x aa
    simp[yh,yg,fC,AY,fK,gZ,offB,Rg];simpa[oV,iw]using ih
  simp[FD,oV,iw];refine cd lo_ ?_ (by simp[bY,bQ]);by_cases h2':t.1=2
  .have tl:=tail v aa hx (by rw[ip h2']);rw[DK (l:=[S (aA v)]) (h:=oV tt d n lo hi) (λq=>rfl)]at tl;simp[h2'];apply cg;refine Eq.mpr (aoG _ _) ?_;exact tl
  .have tl:=tail (v+1) hv1 hy (by rw[iN h2'];omega);rw[DK (l:=[S (aA (v+1))]) (h:=oV tt d n lo hi) (λq=>rfl)]at tl;simp[h2'];apply cg;refine Eq.mpr (aoF _ _) ?_;exact cd (u:=.mk) ad tl (by simp[bY,bQ])
theorem Eb{n:Nat}:∀(ts:List (Int×Int))(a:Int×Int),dW n ts a=(a.1+(dW n ts (0,0)).1,a.2+(dW n ts (0,0)).2)
 |[],a=>by simp[dW]
 | t::ts,a=>by
  simp only[dW];split
  .rw[Eb ts,Eb ts (0+_,0+_)];simp[Xa,V5]
  .rw[Eb ts,Eb ts (0+_,0+_)];simp[Xa,V5]
theorem amH{n:Nat}(hn:n<=3900)(hl:Md n ts)(hk:∀t∈ts,ay t.2.natAbs<=100000)(hb:RW ts<=700000):Ds F.xL [lN ts d,I n] (.tup [S (itoa (dW n ts (0,0)).1),S (itoa (dW n ts (0,0)).2)]):=by
 apply afr;have al:=abq ts d;have e0:(itoa 0:bA)=[48]:=k9;have DH:Ds F.tQ [.agg [.d (.sl (RW ts) (ts.map jJ)),.d (.sl (RW ts) (ts.map jV)),S (aA d)]] (.fn F.rZ [] [.dptr (iw ts d) 0]):=al;simp[xL,lN];refine cd DH ?_ (by simp[bY,bQ]);simp;refine ro (O8 hb d) ?_
 have lp:=Ns (n:=n) (d:=d) (tt:=ts) hn (λex h=>aU [(Exit.normal,λ_ h=>
  bnd (ld1 h (.ptr 2 1 0 1)) λv9=>
  bnd (ld1 h (.ptr 3 1 0 1)) λv10=>
  sp h (.ptr 2 1 0 1) [.ptr 3 1 0 1]<|aS h 1 (.ptr 2 1 0 1) v9 λ_ h=>
  aS h 1 (.ptr 3 1 0 1) v10 λ_ h=>
  bnd (ld1 h (.ptr 2 1 0 1)) λv13=>
  bnd (ld1 h (.ptr 3 1 0 1)) λv14=>
  out (.tup [S (itoa (dW n ts (0,0)).1),S (itoa (dW n ts (0,0)).2)]) (.tup [v13,v14]) h)] ex [] h) (oV ts d n 0 0) rfl ts 0 0 101502 hl hk aa aa (by simp;exact Z1 (eC (d:=1) am am) am) (by simp;exact Z1 (eC (d:=1) am am) am) (by
   generalize dW n ts (0,0)=e;simp[oV,iw];refine CL aM ?_;exact fR rfl rfl)
 simp only[oV,iw,e0,Zv,Yq]at lp;exact lp
end Go.Vm
