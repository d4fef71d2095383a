/- Lemmas. -/
import Derived.Test.YtaofhmhlooekoaaGreatDoorQWsY
set_option linter.unusedVariables false
set_option linter.unusedSimpArgs false
namespace Go.Vm
open Go Go.Am Go.Big
variable{α β:Type}{j s i a f:Nat}{x o:Nat×Bk}{clr:LnQ}{cs:LwQ}
def sI(z:Int):D:=.str (itoa z)
theorem RA(P M Q:List α){x:α}(hj:j<M.length):(P++M++Q).take (P.length+j)++[x]++(P++M++Q).drop (P.length+j+1)=P++M.set j x++Q:=by
 obtain⟨a,y,c,rfl,rfl⟩:∃a y c,M=a++y::c∧j=a.length:=⟨M.take j,M[j],M.drop (j+1),af,aM⟩
 rw [show P++(a++y::c)++Q=((P++a)++[y])++(c++Q) by simp,show P.length+a.length+1=((P++a)++[y]).length by simp only[Zs,List.length_cons,List.length_nil],List.drop_left,
  show((P++a)++[y])++(c++Q)=(P++a)++(y::(c++Q)) by simp,show P.length+a.length=(P++a).length by simp,Wq]
 simp
structure RwL where
 s:Nat
 e:Nat
 pre:LdQ
 post:LdQ
 ex:Bool
 cap:Nat
 r:LiQ
variable{l m' l':List RwL}
def RwL.z:RwL:=⟨0,0,[],[],false,0,[]⟩
def RwL.w(R:RwL)(r:LiQ):RwL:={R with r:=r}
def RwL.tot(R:RwL):Nat:=R.pre.length+R.r.length+R.post.length
def RwL.v(R:RwL):V:=.ref R.s R.e R.pre.length R.r.length R.cap R.tot
def RwL.p(R:RwL)(j:Nat):V:=.ptr R.s R.e (R.pre.length+j) R.tot
def RwL.k(R:RwL):Nat×Bk:=(R.e,.data 1 (R.pre++R.r.map sI++R.post) R.ex false)
variable{h:Hp}{R:RwL}
theorem RwL.get(hR:h[R.s]?=some R.k):aC h R.s R.e=.data 1 (R.pre++R.r.map sI++R.post) R.ex false:=by simp[aC,hR,RwL.k]
theorem RwL.tl(R:RwL):R.tot=(R.pre++R.r.map sI++R.post).length:=by simp[RwL.tot];omega
theorem RL(R:RwL):bf R.v=some (I R.r.length):=rfl
theorem Jj(hR:h[R.s]?=some R.k)(hj:j<R.r.length):ixV h 1 R.v (I j)=some (R.p j):=by simp only[RwL.v,ixV,RwL.get hR];rw[if_pos ⟨R.tl,aa,aa⟩];simp[RwL.p]
theorem Nl(hR:h[R.s]?=some R.k)(hj:j<R.r.length):ld1 h (R.p j)=some (S (itoa (nth 0 R.r j))):=by
 simp only[RwL.p,ld1,RwL.get hR];rw[if_pos R.tl]
 have:(R.pre++R.r.map sI++R.post)[R.pre.length+j]?=some (sI (nth 0 R.r j)):=by
  rw[List.append_assoc,List.getElem?_append_right aa,List.getElem?_append_left aM];simp[cF _ _ _ hj,List.getElem?_eq_getElem hj]
 rw[this];rfl
theorem RJ(hR:h[R.s]?=some R.k)(hj:j<R.r.length)(z:Int):st h 1 (R.p j) (S (itoa z))=some (h.set R.s (R.w (R.r.set j z)).k):=by simp only[RwL.p,st,if_true,sto,RwL.get hR,iW,toD,norm];rw[if_pos ⟨trivial,R.tl,aM⟩];simp only[b6,RwL.k,RwL.w];congr 4;have:=RA R.pre (R.r.map sI) R.post (x:=sI z) (j:=j) (by simpa using hj);rw[show R.pre.length+j + [D.str (itoa z)].length=R.pre.length+j+1 by simp];rw[Xc];exact this
theorem RwL.set_get{R':RwL}(hR:h[R.s]?=some R.k)(hs:R'.s=R.s):(h.set R.s R'.k)[R'.s]?=some R'.k:=by rw[hs,List.getElem?_set_self (List.getElem?_eq_some_iff.1 hR).1]
theorem RwL.set_ne{T:RwL}(hT:h[T.s]?=some T.k)(hs:s≠T.s):(h.set s x)[T.s]?=some T.k:=by rw[List.getElem?_set_ne hs];exact hT
theorem wm{h:Hp}{b:Nat}(hu:(h.all fun x=>aA b x.2)=true)(hx:aA b x.2=true):((h.set s x).all fun x=>aA b x.2)=true:=by
 simp only[Z2]at *;intro y hy;rcases Yv hy with hy|rfl
 .exact hu y hy
 .exact hx
theorem RwL.u(R:RwL)(b:Nat):aA b R.k.2=true:=rfl
def bdE(B:Nat)(l:LiQ):Prop:=∀x∈l,x.natAbs<10^B
theorem yL{B:Nat}{l:LiQ}(h:bdE B l)(j:Nat):(nth 0 l j).natAbs<10^B:=by
 by_cases hj:j<l.length
 .rw[cF _ _ _ hj];exact h _ (Yu hj)
 .have:nth 0 l j=0:=by simp[nth,List.getElem?_eq_none (by omega:l.length<=j)]
  rw[this];exact X3 ae
theorem vI{B:Nat}(hB:B<=100000){x:Int}(h:x.natAbs<10^B):ndg x.natAbs<=100001:=
 Zy (cS (d:=B+1) (Z3 h (Z5 ae (Nat.le_succ B))) aa) aa
theorem CL(k:Int)(a b:LiQ)(h:a.length=b.length):(rZ k a b).length=a.length:=by simp[rZ,h]
section
variable{R T:RwL}{h:Hp}{k:Int}{B:Nat}
theorem Oa(hB:B<=100000)(hT:h[T.s]?=some T.k)(hR:h[R.s]?=some R.k)(hne:R.s≠T.s)(hk:ndg k.natAbs<=100002)(bT:bdE B T.r)(hl:R.r.length=T.r.length)(hL:R.r.length<1000000)(b:Nat)(h0:Hp)(hh:h0.length=h.length)(K:KL) :
  ∀(rq rp:LiQ)(tp tq:LiQ),tp++tq=T.r->rp.length=tp.length->rq.length=tq.length->bdE B rq->rp.length+rq.length=R.r.length ->
  K (.exit 0) [] (h.set R.s (R.w (rp++rZ k rq tq)).k) ->
  lp (jJ (CX Y) b R.v (S (itoa k)) T.v (I T.r.length)) [] h0 [I rp.length] (h.set R.s (R.w (rp++rq)).k) K
 | [],rp,tp,tq,ht,h1,h2,bR,hn,hK=>by
  refine ak ?_;have hlt:¬((rp.length:Int)<(T.r.length:Int)):=by simp at hn;omega
  have:tq=[]:=Zp (by simpa using h2.symm);subst this;simp only[jJ];simp(disch:=try exact ac)[hlt];simpa[rZ]using hK
 |x::rq,rp,tp,[],ht,h1,h2,bR,hn,hK=>by simp at h2
 | x::rq,rp,tp,y::tq,ht,h1,h2,bR,hn,hK=>by
  refine ak ?_;have hlt:((rp.length:Int)<(T.r.length:Int)):=by simp at hn;omega
  obtain⟨H,hH⟩:∃H,H=h.set R.s (R.w (rp++x::rq)).k:=⟨_,rfl⟩;have gR:H[R.s]?=some (R.w (rp++x::rq)).k:=by rw[hH];exact RwL.set_get hR rfl
  have gT:H[T.s]?=some T.k:=by rw[hH];exact RwL.set_ne hT hne
  have vR:R.v=(R.w (rp++x::rq)).v:=by simp[RwL.v,RwL.w,RwL.tot]at hn ⊢;omega
  have jl:rp.length<T.r.length:=by simp at hn;omega
  have jr:rp.length<(R.w (rp++x::rq)).r.length:=by simp[RwL.w]
  have nT:nth 0 T.r rp.length=y:=by rw[<-ht,h1];simp
  have nR:nth 0 (R.w (rp++x::rq)).r rp.length=x:=by simp[RwL.w]
  have i1:=Jj gT jl;have i2:=Nl gT jl;have i3:=Jj gR jr;have i4:=Nl gR jr;rw[nT]at i2;rw[nR]at i4;have i5:=RJ gR jr (x-k*y);have bx:ndg x.natAbs<=100001:=vI hB (bR x af);have by_:ndg y.natAbs<=100001:=vI hB (bT y (by rw[<-ht];simp));have bm:=eY (z:=k) (w:=y);rw[<-hH,vR];simp only[jJ]
  simp(disch:=try exact ac)[hlt,i1,i2,i3,i4];refine cd (nm (z:=k) (w:=y) aa aa) ?_;simp(disch:=try exact ac);refine cd (Vw (z:=x) (w:=k*y) aa aa) ?_;simp(disch:=try exact ac)[i3,i5];rw[pf 0 h0 _ (by simp[hH,hh]),<-vR];refine lo ?_
  have e1:H.set (R.w (rp++x::rq)).s ((R.w (rp++x::rq)).w ((R.w (rp++x::rq)).r.set rp.length (x-k*y))).k=h.set R.s (R.w ((rp++[x-k*y])++rq)).k:=by
   rw[hH];simp[RwL.w]
  rw[e1];have ih:=Oa hB hT hR hne hk bT hl hL b h0 hh K rq (rp++[x-k*y]) (tp++[y]) tq (by simp[ht]) (by simp[h1]) (by simpa using h2) (fun z hz=>bR z (by simp[hz])) (by simp at hn ⊢;omega) (by simpa[rZ]using hK);simpa using ih
theorem S8(hR:h[R.s]?=some R.k)(hB:B<=100000)(hL:R.r.length<1000000)(b:Nat)(h0:Hp)(hh:h0.length=h.length)(K:KL) :
  ∀(rq rp:LiQ),bdE B rq->rp.length+rq.length=R.r.length ->
  K (.exit 0) [] (h.set R.s (R.w (rp++rq.map (- ·))).k) ->
  lp (iB (CX Y) b R.v R.v (I R.r.length)) [] h0 [I rp.length] (h.set R.s (R.w (rp++rq)).k) K
 | [],rp,bR,hn,hK=>by
  refine ak ?_;have hlt:¬((rp.length:Int)<(R.r.length:Int)):=by simp at hn;omega
  simp only[iB];simp(disch:=try exact ac)[hlt];simpa using hK
 | x::rq,rp,bR,hn,hK=>by
  refine ak ?_;have hlt:((rp.length:Int)<(R.r.length:Int)):=by simp at hn;omega
  obtain⟨H,hH⟩:∃H,H=h.set R.s (R.w (rp++x::rq)).k:=⟨_,rfl⟩;have gR:H[R.s]?=some (R.w (rp++x::rq)).k:=by rw[hH];exact RwL.set_get hR rfl
  have vR:R.v=(R.w (rp++x::rq)).v:=by simp[RwL.v,RwL.w,RwL.tot]at hn ⊢;omega
  have jr:rp.length<(R.w (rp++x::rq)).r.length:=by simp[RwL.w]
  have nR:nth 0 (R.w (rp++x::rq)).r rp.length=x:=by simp[RwL.w]
  have i3:=Jj gR jr;have i4:=Nl gR jr;rw[nR]at i4;have i5:=RJ gR jr (-x);have bx:ndg x.natAbs<=100001:=vI hB (bR x af);rw[<-hH,vR];simp only[iB];simp(disch:=try exact ac)[hlt,i3,i4];refine cd (xZ (z:=x) aa) ?_;simp(disch:=try exact ac)[i3,i5];rw[pf 0 h0 _ (by simp[hH,hh]),<-vR];refine lo ?_
  have e1:H.set (R.w (rp++x::rq)).s ((R.w (rp++x::rq)).w ((R.w (rp++x::rq)).r.set rp.length (-x))).k=h.set R.s (R.w ((rp++[-x])++rq)).k:=by
   rw[hH];simp[RwL.w]
  rw[e1];have ih:=S8 hR hB hL b h0 hh K rq (rp++[-x]) (fun z hz=>bR z (by simp[hz])) (by simp at hn ⊢;omega) (by simpa using hK);simpa using ih
theorem Pt(a b:LiQ)(h:a.length=b.length):rZ 0 a b=a:=by
 induction a generalizing b with
 |nil=>simp[rZ]
 | cons x a ih=>
  cases b with
  |nil=>simp at h
  | cons y b=>
   have:=ih b (by simpa using h);simp[rZ]at this ⊢;exact this
theorem RwL.set_same(hR:h[R.s]?=some R.k):h.set R.s (R.w R.r).k=h:=by
 apply X9;intro i;by_cases hi:R.s=i
 .subst hi;rw[List.getElem?_set_self (List.getElem?_eq_some_iff.1 hR).1,hR];rfl
 .rw[List.getElem?_set_ne hi]
theorem JY(hB:B<=100000)(hT:h[T.s]?=some T.k)(hR:h[R.s]?=some R.k)(hne:R.s≠T.s)(hk:ndg k.natAbs<=100002)(bT:bdE B T.r)(bR:bdE B R.r)(hl:R.r.length=T.r.length)(hL:R.r.length<1000000)
  (hu:(h.all fun x=>aA h.length x.2)=true):CI Y F.eC [R.v,S (itoa k),T.v] h (.tup []) (h.set R.s (R.w (rZ k R.r T.r)).k):=by
 refine wH ?_
 have fin:nB h.length (.tup []) (h.set R.s (R.w (rZ k R.r T.r)).k) (.tup []) (h.set R.s (R.w (rZ k R.r T.r)).k):=
  ⟨by rw[Z1 af],wm hu (RwL.u _ _),.inl ⟨rfl,rfl⟩⟩
 simp only[eC,List.replicate_zero,Zj];by_cases h0:k=0
 .subst h0;have:itoa 0=[48]:=aD;rw[Pt _ _ hl,RwL.set_same hR]at fin ⊢;simp(disch:=try exact ac)[this];exact fin
 .have h48:¬itoa k=[48]:=fun e=>h0 (yh (e.trans (show[48]=itoa 0 by decide+kernel)))
  have:=Oa hB hT hR hne hk bT hl hL h.length h rfl (exK [((.exit 0),fun l3 h'=>nB h.length (.tup []) (h.set R.s (R.w (rZ k R.r T.r)).k) (.tup []) h')]) R.r [] [] T.r rfl rfl hl bR af (by simpa using fin);rw[List.nil_append,RwL.set_same hR]at this;simp(disch:=try exact ac)[h48,RL T];exact lo this
theorem Md(hB:B<=100000)(hR:h[R.s]?=some R.k)(bR:bdE B R.r)(hL:R.r.length<1000000)(hu:(h.all fun x=>aA h.length x.2)=true):
  CI Y F.eu [R.v] h (.tup []) (h.set R.s (R.w (R.r.map (- ·))).k):=by
 refine ut ?_
 have fin:nB h.length (.tup []) (h.set R.s (R.w (R.r.map (- ·))).k) (.tup []) (h.set R.s (R.w (R.r.map (- ·))).k):=
  ⟨by rw[Z1 af],wm hu (RwL.u _ _),.inl ⟨rfl,rfl⟩⟩
 simp only[eu,List.replicate_zero,Zj];have:=S8 hR hB hL h.length h rfl (exK [((.exit 0),fun l3 h'=>nB h.length (.tup []) (h.set R.s (R.w (R.r.map (- ·))).k) (.tup []) h')]) R.r [] bR af (by simpa using fin);rw[List.nil_append,RwL.set_same hR]at this;simp(disch:=try exact ac)[RL R];exact lo this
end
theorem vi(h:∀t∈clr,t≠s):gG clr s=true:=by
 induction clr with
 |nil=>rfl
 | cons t l ih=>
  rw[Df,beq_lit,decide_eq_false (h t af),ih fun u hu=>h u (by grind)];rfl
theorem Le{b:Nat}(hc:∀t∈clr,b<=t):∀x:V,under b x=true->oA clr x=true:=by
 intro x
 induction x using V.rec (motive_2:=fun l=>iV b l=true->gW clr l=true)with
 |agg l ih=>trivial
 |tup l ih=>trivial
 | fn g a c iha ihc=>
  grind[under,oA]
 |ifc t x ih=>trivial
 |nil=>rfl
 | cons x l ih ihl h=>
  grind[iV,gW]
 | ref s e off len cap tot=>
  intro h;have:s<b:=by simpa[under,W0]using h
  exact vi fun t ht=>by grind
 | ptr s e off tot=>
  intro h;have:s<b:=by simpa[under,W0]using h
  exact vi fun t ht=>by grind
 |_=>intro _;rfl
theorem Aw{clr:LnQ}{b:Nat}(hc:∀t∈clr,b<=t):∀l:LwQ,iV b l=true->gW clr l=true
 |[],_=>rfl
 | x::l,h=>by
  simp only[iV,Z8]at h;simp only[gW,Le hc x h.1,Aw hc l h.2,Yg]
theorem Lf{b:Nat}(hc:∀t∈clr,b<=t)(x:Bk)(h:aA b x=true):offB clr x=true:=by
 cases x with
 |vars l=>exact Aw hc l h
 |_=>rfl
theorem JH{clr:LnQ}{b:Nat}(hc:∀t∈clr,b<=t):∀(h t:Hp)(i:Nat),(h.all fun x=>aA b x.2)=true->oU clr (i+h.length) t=true->oU clr i (h++t)=true
 |[],t,i,_,ht=>ht
 | x::h,t,i,hu,ht=>by
  simp only[List.all_cons,Z8]at hu;rw[List.cons_append,vW,Lf hc _ hu.1,Bool.or_true,Yk];refine JH hc h t (i+1) hu.2 ?_;rw[List.length_cons]at ht;rw[show i+1+h.length=i+(h.length+1) by omega];exact ht
theorem r8{clr:LnQ}{b:Nat}(hc:∀t∈clr,b<=t):∀(i:Nat)(h0 h:Hp),h.length=h0.length->(∀s,b<=i+s->s<h.length->h[s]?=some nnQ∧h0[s]?=some nnQ)->aL clr i h0 h=h
 |_,[],[],_,_=>rfl
 |_,[],_::_,hl,_=>by simp at hl
 |_,_::_,[],hl,_=>by simp at hl
 | i,x0::h0,x::h,hl,hs=>by
  rw [pi,r8 hc (i+1) h0 h (by simpa using hl) (fun s hb hlt=>by
   have:=hs (s+1) aa (by simpa using hlt);simpa using this)]
  split
  .rfl
  .rename_i hn
   have hb:b<=i:=by
    refine Classical.byContradiction fun hlt=>hn (vi fun t ht=>?_)
    have:=hc t ht;omega
   have:=hs 0 aa af;simp at this;rw[this.1,this.2]
theorem tz{b:Nat}(hc:∀t∈clr,b<=t){h:Hp}(hu:(h.all fun x=>aA b x.2)=true)(i:Nat):oU clr i h=true:=by have:=JH hc h [] i hu (by simp[oU]);simpa using this
structure Tr(b:Nat)(gh:Hp)(h:Hp)(so eo L:Nat)(m:List RwL):Prop where
 o:h[so]?=some (eo,.vars (m.map RwL.v))
 r:∀i,i<m.length->h[(nth RwL.z m i).s]?=some (nth RwL.z m i).k
 nd:∀i j,i<m.length->j<m.length->i≠j->(nth RwL.z m i).s≠(nth RwL.z m j).s
 no:∀i,i<m.length->(nth RwL.z m i).s≠so
 ln:∀i,i<m.length->(nth RwL.z m i).r.length=L
 fr:∀s,s≠so->(∀i,i<m.length->(nth RwL.z m i).s≠s)->h[s]?=gh[s]?
 so:so<b
 sb:∀i,i<m.length->(nth RwL.z m i).s<b
 u:(h.all fun x=>aA b x.2)=true
 bl:b<=h.length
 ow:∀s,b<=s->s<h.length->h[s]?=some nnQ
def ouV(so eo n:Nat):V:=.ref so eo 0 n n n
def ouP(so eo n i:Nat):V:=.ptr so eo i n
abbrev fe:=xt RwL.z RwL.r
abbrev nR(m:List RwL)(i:Nat):RwL:=nth RwL.z m i
theorem jG(d:α)(l:List α)(i j:Nat)(x:α)(h:i<l.length):nth d (l.set i x) j=if j=i then x else nth d l j:=by
 by_cases e:j=i
 .subst e;simp[nth,h]
 .simp[nth,List.getElem?_set_ne (Ne.symm e),e]
theorem NT(f:α->β)(d:α)(l:List α)(i:Nat)(h:i<l.length):(l.map f)[i]?=some (f (nth d l i)):=by simp[nth,h]
theorem VQ(d:α)(l:List α)(i:Nat)(h:i<l.length):l.set i (nth d l i)=l:=by simp[nth,h]
variable{b so eo L:Nat}{m:List RwL}{gh h:Hp}
theorem vL{b c:Nat}(hbc:b<=c){h:Hp}(hu:(h.all fun x=>aA b x.2)=true):(h.all fun x=>aA c x.2)=true:=by simp only[Z2]at *;exact fun x hx=>yW hbc (hu x hx)
theorem Tr.hu(T:Tr b gh h so eo L m):(h.all fun x=>aA h.length x.2)=true:=vL T.bl T.u
theorem Tr.get(T:Tr b gh h so eo L m):aC h so eo=.vars (m.map RwL.v):=by simp[aC,T.o]
theorem Tr.ix(T:Tr b gh h so eo L m)(hi:i<m.length):ixV h 1 (ouV so eo m.length) (I i)=some (ouP so eo m.length i):=by simp only[ouV,ixV,T.get];rw[if_pos ⟨af,aa,aa⟩];simp[ouP]
theorem Tr.ld(T:Tr b gh h so eo L m)(hi:i<m.length):ld1 h (ouP so eo m.length i)=some (nR m i).v:=by simp only[ouP,ld1,T.get];rw[if_pos af,NT _ RwL.z _ _ hi]
theorem Tr.ix2(T:Tr b gh h so eo L m){c:Nat}(hi:i<m.length)(hc:c<L):ixV h 1 (nR m i).v (I c)=some ((nR m i).p c):=Jj (T.r i hi) (by rw[T.ln i hi];exact hc)
theorem Tr.ld2(T:Tr b gh h so eo L m){c:Nat}(hi:i<m.length)(hc:c<L):ld1 h ((nR m i).p c)=some (S (itoa (fe m i c))):=Nl (T.r i hi) (by rw[T.ln i hi];exact hc)
theorem RwL.w_v(R:RwL){r:LiQ}(hr:r.length=R.r.length):(R.w r).v=R.v:=by simp[RwL.v,RwL.w,RwL.tot,hr]
theorem Tr.row(T:Tr b gh h so eo L m)(hi:i<m.length){r:LiQ}(hr:r.length=L):Tr b gh (h.set (nR m i).s ((nR m i).w r).k) so eo L (m.set i ((nR m i).w r)) where
 o:=by
  rw[List.getElem?_set_ne (T.no i hi),T.o,Xc,RwL.w_v _ (by rw[hr];exact(T.ln i hi).symm)];congr 3;rw[<-Xc,VQ _ _ _ hi]
 r:=fun j hj=>by
  rw[Y7]at hj;rw[jG _ _ _ _ _ hi];by_cases e:j=i
  .rw[if_pos e];exact RwL.set_get (R:=nR m i) (T.r i hi) rfl
  .rw[if_neg e];exact RwL.set_ne (T.r j hj) (T.nd i j hi hj (Ne.symm e))
 nd:=fun j k hj hk hjk=>by
  rw[Y7]at hj hk;rw[jG _ _ _ _ _ hi,jG _ _ _ _ _ hi];by_cases e:j=i
  .subst e;rw[if_pos rfl,if_neg (Ne.symm hjk)];exact T.nd _ k hi hk hjk
  .rw[if_neg e];by_cases e2:k=i
   .subst e2;rw[if_pos rfl];exact T.nd j _ hj hi hjk
   .rw[if_neg e2];exact T.nd j k hj hk hjk
 no:=fun j hj=>by
  rw[Y7]at hj;rw[jG _ _ _ _ _ hi];split
  .exact T.no i hi
  .exact T.no j hj
 ln:=fun j hj=>by
  rw[Y7]at hj;rw[jG _ _ _ _ _ hi];split
  .exact hr
  .exact T.ln j hj
 so:=T.so
 sb:=fun j hj=>by
  rw[Y7]at hj;rw[jG _ _ _ _ _ hi];split
  .exact T.sb i hi
  .exact T.sb j hj
 u:=wm T.u rfl
 bl:=by rw[Y7];exact T.bl
 ow:=fun s hs hl=>by
  rw[Y7]at hl;have:(nR m i).s<b:=T.sb i hi;rw[List.getElem?_set_ne aa];exact T.ow s hs hl
 fr:=fun s hs hne=>by
  have hall:∀j,j<m.length->(nth RwL.z m j).s≠s:=fun j hj=>by
   have:=hne j (by rw[Y7];exact hj);rw[jG _ _ _ _ _ hi]at this;by_cases e:j=i
   .subst e;rw[if_pos rfl]at this;exact this
   .rw[if_neg e]at this;exact this
  rw[List.getElem?_set_ne (hall i hi)];exact T.fr s hs hall
theorem ac2{n:Nat}(ho:h[so]?=some (eo,.vars cs))(hn:cs.length=n)(hi:i<n)(R:RwL):st h 1 (ouP so eo n i) R.v=some (h.set so (eo,.vars (cs.set i R.v))):=by
 have hg:aC h so eo=.vars cs:=by simp[aC,ho]
 simp only[ouP,RwL.v,st,if_true,sto,hg];rw[if_pos ⟨hn.symm,by simp only[List.length_cons,List.length_nil];omega,rfl⟩]
 have e:cs.set i (V.ref R.s R.e R.pre.length R.r.length R.cap R.tot)=cs.take i++[V.ref R.s R.e R.pre.length R.r.length R.cap R.tot]++cs.drop (i+1):=by
  rw[Yh,if_pos aa];simp
 rw[e];rfl
theorem lI{k:Nat}(hi:i<m.length)(hj:j<m.length)(hk:k<m.length):∃k',k'<m.length∧nth RwL.z (mg RwL.z m i j) k=nth RwL.z m k'∧k'=(if k=j then i else if k=i then j else k):=by
 refine⟨_,?_,?_,rfl⟩
 .split
  .exact hi
  .split
   .exact hj
   .exact hk
 .unfold mg;rw[jG _ _ _ _ _ (by simpa using hj)];split
  .rfl
  .rw[jG _ _ _ _ _ hi];split<;>rfl
theorem Tr.swap(T:Tr b gh h so eo L m)(hi:i<m.length)(hj:j<m.length):Tr b gh (h.set so (eo, .vars ((mg RwL.z m i j).map RwL.v))) so eo L (mg RwL.z m i j) where
  o:=List.getElem?_set_self (List.getElem?_eq_some_iff.1 T.o).1
  r :=fun k hk=>by
    rw[fJ]at hk;obtain⟨k',h1,h2,_⟩:=lI hi hj hk;rw[h2,List.getElem?_set_ne (Ne.symm (T.no k' h1))];exact T.r k' h1
  nd :=fun k l hk hl hkl=>by
    rw[fJ]at hk hl;obtain⟨k',h1,h2,h3⟩:=lI hi hj hk;obtain⟨l',h4,h5,h6⟩:=lI hi hj hl;rw[h2,h5];refine T.nd k' l' h1 h4 ?_;rw[h3,h6]
    repeat' split
    all_goals omega
  no :=fun k hk=>by
    rw[fJ]at hk;obtain⟨k',h1,h2,_⟩:=lI hi hj hk;rw[h2];exact T.no k' h1
  ln :=fun k hk=>by
    rw[fJ]at hk;obtain⟨k',h1,h2,_⟩:=lI hi hj hk;rw[h2];exact T.ln k' h1
  so:=T.so
  sb :=fun k hk=>by
    rw[fJ]at hk;obtain⟨k',h1,h2,_⟩:=lI hi hj hk;rw[h2];exact T.sb k' h1
  u :=by
    refine wm T.u ?_
    have hv:∀l:List RwL,(∀R∈l,R.s<b)->iV b (l.map RwL.v)=true:=by
      intro l hl
      induction l with
      |nil=>rfl
      | cons R l ih=>
        simp only[Zx,iV,ih (fun x hx=>hl x (by simp[hx])),Yg];have:=hl R af;simpa[RwL.v,under,W0]using this
    refine hv _ fun R hR=> ?_
    obtain⟨k,hk,rfl⟩:=List.mem_iff_getElem.1 hR;have hk':k<m.length:=by simpa[mg]using hk
    obtain⟨k',h1,h2,_⟩:=lI hi hj hk';rw[<-cF RwL.z _ _ hk,h2];exact T.sb k' h1
  bl:=by rw[Y7];exact T.bl
  ow :=fun s hs hl=>by
    rw[Y7]at hl;have:=T.so;rw[List.getElem?_set_ne aa];exact T.ow s hs hl
  fr :=fun s hs hne=>by
    have hall:∀k,k<m.length->(nth RwL.z m k).s≠s:=fun k hk=>by
      obtain⟨k',h1,h2,h3⟩:=lI (k:=if k=j then i else if k=i then j else k) hi hj (by split<;>(try split)<;>omega)
      have e : k' = k := by rw[h3];repeat' split
                            all_goals omega
      have:=hne _ (by rw[fJ];show(if k=j then i else if k=i then j else k)<m.length;split<;>(try split)<;>omega);rw[h2,e]at this;exact this
    rw[List.getElem?_set_ne (Ne.symm hs)];exact T.fr s hs hall
theorem Q8(hi:i<m.length)(hj:j<m.length):(((m.map RwL.v).set i (nR m j).v).set j (nR m i).v)=(mg RwL.z m i j).map RwL.v:=by simp[mg,Xc]
theorem J8{b:Nat}:Big.cmp a b<0↔a<b:=by unfold Big.cmp;split<;>(try split)<;>omega
theorem rT(z:Int):itoa z=[48]↔z=0:=by have e:[48]=itoa 0:=aD;rw[e];exact⟨fun h=>yh h,fun h=>by rw[h]⟩
theorem Vf{Bd:Nat}(bd:∀i,i<m.length->bdE Bd (nR m i).r)(hB:Bd<=100000)(hi:i<m.length)(c:Nat):ndg (fe m i c).natAbs<=100001:=vI hB (yL (bd i hi) c)
variable{Bd c:Nat}
theorem Oq(T:Tr b gh h so eo L m)(hc:c<L)(hB:Bd<=100000)(bd:∀i,i<m.length->bdE Bd (nR m i).r)(hm:m.length<1000000)(h0:Hp)(hh:h0.length=h.length)(K:KL) :
  ∀(r i:Nat)(a:Int),i+r=m.length->a<i->-1<=a->K (.exit 4) [I (atG RwL.z RwL.r c m r i a)] h ->
  lp (gk (CX Y) b (ouV so eo m.length) (I c)) [] h0 [I a,I i] h K
 | 0,i,a,hr,h1,h2,hK=>by
  refine ak ?_;have hlt:¬((i:Int)<(m.length:Int)):=aa;have l1:bf (ouV so eo m.length)=some (I m.length):=rfl;simp only[gk];simp(disch:=try exact ac)[l1,hlt];exact hK
 | r+1,i,a,hr,h1,h2,hK=>by
  refine ak ?_;have hlt:((i:Int)<(m.length:Int)):=aa;have l1:bf (ouV so eo m.length)=some (I m.length):=rfl;have hi:i<m.length:=aa;have i1:=T.ix hi;have i2:=T.ld hi;have i3:=T.ix2 hi hc;have i4:=T.ld2 hi hc;simp only[gk]
  have ih:=fun a' (h1:a'<((i+1:Nat):Int)) (h2 : -1<=a') (hk:K (.exit 4) [I (atG RwL.z RwL.r c m r (i+1) a')] h)=>Oq T hc hB bd hm h0 hh K r (i+1) a' aa h1 h2 hk
  simp only[atG]at hK;have e1:((i+1:Nat):Int)=(i:Int)+1:=aa
  have fin:∀a':Int,a'<((i+1:Nat):Int)->-1<=a'->K (.exit 4) [I (atG RwL.z RwL.r c m r (i+1) a')] h ->
    rl (lp (gk (CX Y) b (ouV so eo m.length) (I c)) [] h0 [I a',.d (.int .i64 ((i:Int)+1))] h) K .mk:=fun a' x1 x2 hk=>by
   rw[<-e1];exact lo (ih a' x1 x2 hk)
  by_cases e0:fe m i c=0
  .have t0:=(rT (fe m i c)).2 e0;rw[if_neg (fun h=>h.1 e0)]at hK;simp(disch:=try exact ac)[l1,hlt];refine aj ?_;simp(disch:=try exact ac)[i1,i2,i3,i4,t0];refine aj ?_;simp(disch:=try exact ac);exact fin a aa h2 hK
  .have t0:¬itoa (fe m i c)=[48]:=fun h=>e0 ((rT _).1 h)
   by_cases a0:a<0
   .rw[if_pos ⟨e0,.inl a0⟩]at hK;simp(disch:=try exact ac)[l1,hlt];refine aj ?_;simp(disch:=try exact ac)[i1,i2,i3,i4,t0,a0];refine aj ?_;simp(disch:=try exact ac);exact fin i aa aa hK
   .obtain⟨n,rfl⟩:∃n:Nat,a=n:=⟨a.toNat,aa⟩;have hn:n<m.length:=aa;have j1:=T.ix hn;have j2:=T.ld hn;have j3:=T.ix2 hn hc;have j4:=T.ld2 hn hc;simp(disch:=try exact ac)[l1,hlt];refine aj ?_;simp(disch:=try exact ac)[i1,i2,i3,i4,t0,a0];refine cd (yN _) ?_;simp(disch:=try exact ac)[j1,j2,j3,j4];refine cd (yN _) ?_
    simp(disch:=try exact ac);refine cd (Ch (by have:=Vf bd hB hi c;omega) (by have:=Vf bd hB hn c;omega)) ?_;have et:((n:Int)).toNat=n:=aa;rw[et]at hK;by_cases hl:(fe m i c).natAbs<(fe m n c).natAbs
    .have hcm:Big.cmp (fe m i c).natAbs (fe m n c).natAbs<0:=J8.2 hl;rw[if_pos ⟨e0,.inr hl⟩]at hK;simp(disch:=try exact ac)[hcm,t0];refine aj ?_;simp(disch:=try exact ac);exact fin i aa aa hK
    .have hcm:¬Big.cmp (fe m i c).natAbs (fe m n c).natAbs<0:=fun g=>hl (J8.1 g)
     rw[if_neg (fun g=>g.2.elim (fun g=>by omega) hl)]at hK;simp(disch:=try exact ac)[hcm,t0];refine aj ?_;simp(disch:=try exact ac);exact fin n aa aa hK
theorem Oo(hc:c<L)(hB:Bd<=100000)(hL:L<1000000){o:Nat}(h0:Hp)(h00:∀s,b<=s->s<h0.length->h0[s]?=some nnQ)(K:KL) :
  ∀(r i:Nat)(rs:Bool)(m:List RwL)(h:Hp),Tr b gh h so eo L m->m.length<1000000->h0.length=h.length->o<i->i+r=m.length->bdE Bd (nR m o).r->(∀k,i<=k->k<m.length->bdE Bd (nR m k).r)->fe m o c≠0 ->
  (∀h',Tr b gh h' so eo L (kT RwL.z RwL.r RwL.w c o r i rs m).2->h'.length=h.length->K (.exit 6) [B (kT RwL.z RwL.r RwL.w c o r i rs m).1] h') ->
  lp (jh (CX Y) b (ouV so eo m.length) (I o) (I c)) [b+0] h0 [B rs,I i] h K
 | 0,i,rs,m,h,T,hm,hh,ho,hr,b1,b2,hz,hK=>by
  refine ak ?_;have hlt:¬((i:Int)<(m.length:Int)):=aa;have l1:bf (ouV so eo m.length)=some (I m.length):=rfl;simp only[jh];simp(disch:=try exact ac)[l1,hlt];exact hK h T rfl
 | r+1,i,rs,m,h,T,hm,hh,ho,hr,b1,b2,hz,hK=>by
  refine ak ?_;have hlt:((i:Int)<(m.length:Int)):=aa;have l1:bf (ouV so eo m.length)=some (I m.length):=rfl;have hi:i<m.length:=aa;have hoo:o<m.length:=aa;have i1:=T.ix hi;have i2:=T.ld hi;have i3:=T.ix2 hi hc;have i4:=T.ld2 hi hc;have j1:=T.ix hoo;have j2:=T.ld hoo;have j3:=T.ix2 hoo hc;have j4:=T.ld2 hoo hc;have n1:=vI hB (yL (b2 i (Z7 _) hi) c)
  have n2:=vI hB (yL b1 c);simp only[jh];simp(disch:=try exact ac)[l1,hlt,i1,i2,i3,i4,j1,j2,j3,j4];refine cd (ID (z:=fe m i c) (w:=fe m o c) hz (by have:ndg (fe m i c).natAbs<=_:=n1;omega) (by have:ndg (fe m o c).natAbs<=_:=n2;omega)) ?_;simp(disch:=try exact ac)[i1,i2,j1,j2];have nio:o≠i:=aa
  have el:(nR m i).r.length=(nR m o).r.length:=by rw[T.ln i hi,T.ln o hoo]
  have T2:Tr b gh (h.set (nR m i).s ((nR m i).w (rZ ((fe m i c).fdiv (fe m o c)) (nR m i).r (nR m o).r)).k) so eo L (jy RwL.z RwL.r RwL.w c o m i):=T.row hi (by rw[CL _ _ _ el,T.ln i hi]);have q1:ndg ((fe m i c).fdiv (fe m o c)).natAbs<=100002:=Zy (cE (Kt _ _ hz)) (Zy n1 aa)
  refine io (JY hB (T.r o hoo) (T.r i hi) (T.nd i o hi hoo (Ne.symm nio)) q1 b1 (b2 i (Z7 _) hi) el (by rw[T.ln i hi];exact hL) T.hu) ?_ (by intro _ _ _ _ _ h;cases h);have e1:((i+1:Nat):Int)=(i:Int)+1:=aa;have hlen:(h.set (nR m i).s ((nR m i).w (rZ ((fe m i c).fdiv (fe m o c)) (nR m i).r (nR m o).r)).k).length=h.length:=Y7
  generalize h.set (nR m i).s ((nR m i).w (rZ ((fe m i c).fdiv (fe m o c)) (nR m i).r (nR m o).r)).k=h1 at *;have no:nR (jy RwL.z RwL.r RwL.w c o m i) o=nR m o:=by unfold nR jy;rw[jG _ _ _ _ _ hi,if_neg nio]
  have tl:(jy RwL.z RwL.r RwL.w c o m i).length=m.length:=mP ..
  have eo':fe (jy RwL.z RwL.r RwL.w c o m i) o c=fe m o c:=by
   show nth 0 (nR (jy RwL.z RwL.r RwL.w c o m i) o).r c=_
   rw[no];rfl
  have cl:∀x:Bool,clean [b] [B x,I ((i:Int)+1)] h1=true:=fun x=>by
   simp only[clean,Z8];exact⟨rfl,tz af T2.u 0⟩
  have rs1:aL [b] 0 h0 h1=h1:=r8 (b:=b) af 0 h0 h1 aa fun s h1' h2'=>⟨T2.ow s aa h2',h00 s aa aa⟩
  have ih:=fun rs' (hk:∀h',Tr b gh h' so eo L (kT RwL.z RwL.r RwL.w c o r (i+1) rs' (jy RwL.z RwL.r RwL.w c o m i)).2->h'.length=h.length->K (.exit 6) [B (kT RwL.z RwL.r RwL.w c o r (i+1) rs' (jy RwL.z RwL.r RwL.w c o m i)).1] h')=>
   Oo hc hB hL h0 h00 K r (i+1) rs' (jy RwL.z RwL.r RwL.w c o m i) h1 T2 (by rw[tl];exact hm) aa aa (by rw[tl];omega) (by rw[no];exact b1)
    (fun k k1 k2=>by
     rw[tl]at k2;have:nR (jy RwL.z RwL.r RwL.w c o m i) k=nR m k:=by unfold nR jy;rw[jG _ _ _ _ _ hi,if_neg aa]
     rw[this];exact b2 k aa k2) (by rw[eo'];exact hz) (fun h' t1 t2=>hk h' t1 aa)
  rw[tl,e1]at ih;simp only[kT]at hK;cases rs with
  | true=>
   simp(disch:=try exact ac)[cl,rs1];exact lo (ih true (by simpa using hK))
  | false=>
   by_cases hf:(fe m i c).fmod (fe m o c)=0
   .have t0:=(rT ((fe m i c).fmod (fe m o c))).2 hf;simp(disch:=try exact ac)[cl,rs1,t0];exact lo (ih false (by simpa[hf]using hK))
   .have t0:¬itoa ((fe m i c).fmod (fe m o c))=[48]:=fun h=>hf ((rT _).1 h)
    have t1:(itoa ((fe m i c).fmod (fe m o c)) == [48])=false:=by simpa using t0
    simp(disch:=try exact ac)[cl,rs1,t1];exact lo (ih true (by simpa[hf]using hK))
theorem On(hc:c<L)(hB:Bd<=100000)(hL:L<1000000){o:Nat}(h0:Hp)(h00:∀s,b<=s->s<h0.length->h0[s]?=some nnQ)(K:KL) :
  ∀(r i:Nat)(m:List RwL)(h:Hp),Tr b gh h so eo L m->m.length<1000000->h0.length=h.length->o<m.length->i+r=o->bdE Bd (nR m o).r->(∀k,i<=k->k<o->bdE Bd (nR m k).r)->fe m o c≠0 ->
  (∀h',Tr b gh h' so eo L (upG RwL.z RwL.r RwL.w c o r i m)->h'.length=h.length->K (.exit 8) [] h') ->
  lp (gj (CX Y) b (ouV so eo m.length) (I o) (I c) (I o)) [b+2] h0 [I i] h K
 | 0,i,m,h,T,hm,hh,ho,hr,b1,b2,hz,hK=>by
  refine ak ?_;have hlt:¬((i:Int)<(o:Int)):=aa;simp only[gj];simp(disch:=try exact ac)[hlt];exact hK h T rfl
 | r+1,i,m,h,T,hm,hh,hoo,hr,b1,b2,hz,hK=>by
  refine ak ?_;have hlt:((i:Int)<(o:Int)):=aa;have hi:i<m.length:=aa;have i1:=T.ix hi;have i2:=T.ld hi;have i3:=T.ix2 hi hc;have i4:=T.ld2 hi hc;have j1:=T.ix hoo;have j2:=T.ld hoo;have j3:=T.ix2 hoo hc;have j4:=T.ld2 hoo hc;have n1:=vI hB (yL (b2 i (Z7 _) aa) c);have n2:=vI hB (yL b1 c);simp only[gj]
  simp(disch:=try exact ac)[hlt,i1,i2,i3,i4,j1,j2,j3,j4];refine cd (ID (z:=fe m i c) (w:=fe m o c) hz (by have:ndg (fe m i c).natAbs<=_:=n1;omega) (by have:ndg (fe m o c).natAbs<=_:=n2;omega)) ?_;simp(disch:=try exact ac)[i1,i2,j1,j2];have nio:o≠i:=aa;have el:(nR m i).r.length=(nR m o).r.length:=by rw[T.ln i hi,T.ln o hoo]
  have T2:Tr b gh (h.set (nR m i).s ((nR m i).w (rZ ((fe m i c).fdiv (fe m o c)) (nR m i).r (nR m o).r)).k) so eo L (jy RwL.z RwL.r RwL.w c o m i):=T.row hi (by rw[CL _ _ _ el,T.ln i hi]);have q1:ndg ((fe m i c).fdiv (fe m o c)).natAbs<=100002:=Zy (cE (Kt _ _ hz)) (Zy n1 aa)
  refine io (JY hB (T.r o hoo) (T.r i hi) (T.nd i o hi hoo (Ne.symm nio)) q1 b1 (b2 i (Z7 _) aa) el (by rw[T.ln i hi];exact hL) T.hu) ?_ (by intro _ _ _ _ _ h;cases h);have e1:((i+1:Nat):Int)=(i:Int)+1:=aa;have hlen:(h.set (nR m i).s ((nR m i).w (rZ ((fe m i c).fdiv (fe m o c)) (nR m i).r (nR m o).r)).k).length=h.length:=Y7
  generalize h.set (nR m i).s ((nR m i).w (rZ ((fe m i c).fdiv (fe m o c)) (nR m i).r (nR m o).r)).k=h1 at *;have no:nR (jy RwL.z RwL.r RwL.w c o m i) o=nR m o:=by unfold nR jy;rw[jG _ _ _ _ _ hi,if_neg nio]
  have tl:(jy RwL.z RwL.r RwL.w c o m i).length=m.length:=mP ..
  have eo':fe (jy RwL.z RwL.r RwL.w c o m i) o c=fe m o c:=by
   show nth 0 (nR (jy RwL.z RwL.r RwL.w c o m i) o).r c=_
   rw[no];rfl
  have cl:clean [b+2] [I ((i:Int)+1)] h1=true:=by
   simp only[clean,Z8];exact⟨rfl,tz (b:=b) af T2.u 0⟩
  have rs1:aL [b+2] 0 h0 h1=h1:=r8 (b:=b) af 0 h0 h1 aa fun s h1' h2'=>⟨T2.ow s aa h2',h00 s aa aa⟩
  have ih:=On hc hB hL h0 h00 K r (i+1) (jy RwL.z RwL.r RwL.w c o m i) h1 T2 (by rw[tl];exact hm) aa (by rw[tl];exact hoo) aa (by rw[no];exact b1)
    (fun k k1 k2=>by
     have:nR (jy RwL.z RwL.r RwL.w c o m i) k=nR m k:=by unfold nR jy;rw[jG _ _ _ _ _ hi,if_neg aa]
     rw[this];exact b2 k aa k2) (by rw[eo'];exact hz) (fun h' t1 t2=>by simp only[upG]at hK;exact hK h' t1 aa)
  rw[tl,e1]at ih;simp(disch:=try exact ac)[cl,rs1];exact lo ih
theorem JS(z:Int):(sgn z<0)↔z<0:=by unfold sgn;split<;>(try split)<;>omega
theorem Vn(c:Nat)(m:List RwL):∀(r i:Nat)(a:Int),(a<0∨fe m a.toNat c≠0)->(atG RwL.z RwL.r c m r i a<0∨fe m (atG RwL.z RwL.r c m r i a).toNat c≠0)
 |0,_,_,h=>h
 | r+1,i,a,h=>by
  simp only[atG];refine Vn c m r (i+1) _ ?_;split
  .rename_i g;exact .inr g.1
  .exact h
theorem Cr(c o:Nat):∀(r i:Nat)(x:Bool)(m:List RwL)(k:Nat),k<i->i+r<=m.length->nR (kT RwL.z RwL.r RwL.w c o r i x m).2 k=nR m k
 |0,_,_,_,_,_,_=>rfl
 | r+1,i,x,m,k,hk,hl=>by
  simp only[kT];rw[Cr c o r (i+1) _ _ k aa (by rw[mP];omega)];unfold nR jy;rw[jG _ _ _ _ _ aa,if_neg aa]
theorem SZ(l:LiQ)(c:Nat):nth 0 (l.map (- ·)) c = -(nth 0 l c):=by simp only[nth,Z0,List.getElem?_map];cases l[c]?<;>simp
theorem ZI{l:LiQ}(h:bdE Bd l):bdE Bd (l.map (- ·)):=fun x hx=>by
 obtain⟨y,hy,rfl⟩:=Zf.1 hx;rw[Xj];exact h y hy
theorem agk{n:Nat}(ho:h[so]?=some (eo,.vars cs))(hn:cs.length=n)(hi:i<n):ixV h 1 (ouV so eo n) (I i)=some (ouP so eo n i):=by
 have hg:aC h so eo=.vars cs:=by simp[aC,ho]
 simp only[ouV,ixV,hg];rw[if_pos ⟨hn.symm,aa,aa⟩];simp[ouP]
theorem Ot(hc:c<L)(hB:Bd<=100000)(hL:L<1000000)(h0:Hp)(h00:∀s,b<=s->s<h0.length->h0[s]?=some nnQ)(K:KL) :
  ∀(f o:Nat)(m:List RwL)(h:Hp)(o':Nat)(m':List RwL),Tr b gh h so eo L m->m.length<1000000->h0.length=h.length->o<m.length->mG RwL.z RwL.r RwL.w Bd c f o m=some (o',m') ->
  (∀h',Tr b gh h' so eo L m'->h'.length=h.length->K (.exit 2) [I o'] h') ->
  lp (lZ (CX Y) b (ouV so eo m.length) (I c)) [b+0,b+1,b+2] h0 [I o] h K
 |0,o,m,h,o',m',T,hm,hh,ho,hf,hK=>by simp[mG]at hf
 | f+1,o,m,h,o',m',T,hm,hh,ho,hf,hK=>by
  refine ak ?_;simp only[mG]at hf;split at hf
  case isFalse=>cases hf
  rename_i hbd
  have bd:∀i,i<m.length->bdE Bd (nR m i).r:=fun i hi x hx=>by
   have h1:=Z2.1 hbd (nR m i) (by rw[nR,cF _ _ _ hi];exact Yu hi);have h2:=Z2.1 h1 x hx;simpa using h2
  obtain⟨a,ha⟩:=nmQ (atG RwL.z RwL.r c m (m.length-o) o (-1));have ha2:=MM (d:=RwL.z) (g:=RwL.r) c m (m.length-o) o (-1) aa aa;rw[<-ha]at hf ha2;simp only[lZ];simp(disch:=try exact ac);refine lo (Oq T hc hB bd hm h rfl _ (m.length-o) o (-1) aa aa aa ?_);rw[<-ha];by_cases a0:a<0
  .rw[if_pos a0]at hf;cases hf;simp(disch:=try exact ac)[a0];exact hK h T rfl
  .rw[if_neg a0]at hf;obtain⟨n,rfl⟩:∃n:Nat,a=n:=⟨a.toNat,aa⟩;rw[show((n:Int)).toNat=n by omega]at hf;have hn:n<m.length:=aa;have i1:=T.ix hn;have i2:=T.ld hn;have j1:=T.ix ho;have j2:=T.ld ho;have s1:=ac2 (h:=h) T.o af ho (nR m n);have hso:so<h.length:=(List.getElem?_eq_some_iff.1 T.o).1
   have g1:(h.set so (eo,.vars ((m.map RwL.v).set o (nR m n).v)))[so]?=some (eo,.vars ((m.map RwL.v).set o (nR m n).v)):=List.getElem?_set_self hso;have x1:=agk g1 (n:=m.length) af hn;have s2:=ac2 g1 (n:=m.length) af hn (nR m o);rw[List.set_set,Q8 ho hn]at s2;have T1:=T.swap ho hn;simp(disch:=try exact ac)[a0,i1,i2,j1,j2,s1,x1,s2]
   obtain⟨H2,hH2⟩:=nmQ (h.set so (eo,.vars ((mg RwL.z m o n).map RwL.v)));have lH2:H2.length=h.length:=by rw[hH2];exact Y7
   rw[<-hH2]at T1 ⊢;have sl:(mg RwL.z m o n).length=m.length:=fJ ..
   have bd1:∀k,k<m.length->bdE Bd (nR (mg RwL.z m o n) k).r:=fun k hk=>by
    obtain⟨k',h1,h2,_⟩:=lI ho hn hk;rw[nR,h2];exact bd k' h1
   have z1:fe (mg RwL.z m o n) o c=fe m n c:=by
    obtain⟨k',h1,h2,h3⟩:=lI ho hn ho;have:k'=n:=by rw[h3];split<;>simp_all
    show nth 0 (nth RwL.z (mg RwL.z m o n) o).r c=_
    rw[h2,this];rfl
   have nz:fe m n c≠0:=by
    have:=Vn c m (m.length-o) o (-1) (.inl aa);rw[<-ha]at this;rcases this with g|g
    .omega
    .simpa using g
   obtain⟨s,hs⟩:=nmQ (kT RwL.z RwL.r RwL.w c o (m.length-(o+1)) (o+1) false (mg RwL.z m o n));rw[<-hs]at hf;have ls:s.2.length=m.length:=by rw[hs,kS,sl]
   have ks:∀k,k<=o->nR s.2 k=nR (mg RwL.z m o n) k:=fun k hk=>by rw[hs];exact Cr c o _ _ _ _ k aa (by rw[sl];omega)
   have e1:((o+1:Nat):Int)=(o:Int)+1:=aa;have hl3:=fun K=>Oo (o:=o) hc hB hL H2 T1.ow K (m.length-(o+1)) (o+1) false (mg RwL.z m o n) H2 T1 (by rw[sl];exact hm) rfl aa (by rw[sl];omega) (bd1 o ho) (fun k _ k2=>bd1 k (by rw[sl]at k2;exact k2)) (by rw[z1];exact nz)
   rw[<-hs,sl,e1]at hl3;refine lo (hl3 _ fun h' T2 t2=>?_)
   have cl:∀(x:Int)(h'':Hp)(m2:List RwL),Tr b gh h'' so eo L m2->clean [b,b+1,b+2] [I x] h''=true:=fun x h'' m2 T=>by
    simp only[clean,Z8];exact⟨rfl,tz (b:=b) af T.u 0⟩
   have rs1:aL [b,b+1,b+2] 0 h0 h'=h':=r8 (b:=b) af 0 h0 h' aa fun s h1' h2'=>⟨T2.ow s aa h2',h00 s aa aa⟩
   by_cases hr:s.1=true
   .rw[if_pos hr]at hf;have ih:=Ot hc hB hL h0 h00 K f o s.2 h' o' m' T2 aa aa aa hf (fun h3 a1 a2=>hK h3 a1 aa);rw[ls]at ih;simp(disch:=try exact ac)[hr,cl _ h' s.2 T2,rs1];exact lo ih
   .have hr2:s.1=false:=by simpa using hr
    rw[if_neg hr]at hf;have T2':=T2;have hos:o<s.2.length:=aa;have i1':=T2.ix hos;have i2':=T2.ld hos;have i3':=T2.ix2 hos hc;have i4':=T2.ld2 hos hc;rw[ls]at i1' i2';have bds:∀k,k<=o->bdE Bd (nR s.2 k).r:=fun k hk=>by rw[ks k hk];exact bd1 k aa
    have zs:fe s.2 o c≠0:=by
     show nth 0 (nR s.2 o).r c≠0
     rw[ks o (Z7 _)];have:nth 0 (nR (mg RwL.z m o n) o).r c=fe m n c:=z1;rw[this];exact nz
    have tail:∀(m3:List RwL)(h3:Hp),Tr b gh h3 so eo L m3->h3.length=h.length->m3.length=m.length->(∀k,k<=o->bdE Bd (nR m3 k).r)->fe m3 o c≠0->upG RwL.z RwL.r RwL.w c o o 0 m3=m'->(o:Int)+1=(o':Int) ->
      lp (gj (CX Y) b (ouV so eo m.length) (I o) (I c) (I o)) [b+2] h3 [.d (.int .i64 0)] h3 (exK [((.exit 8),fun l21 h=>
       bnd (biI .add (I o) (.d (.int .i64 1))) fun v22=>
       K (.exit 2) [v22] h)]):=by
     intro m3 h3 T3 l3 lm b3 z3 hu ho'
     have q:=On (o:=o) hc hB hL h3 T3.ow (exK [((.exit 8),fun l21 h=>
       bnd (biI .add (I o) (.d (.int .i64 1))) fun v22=>
       K (.exit 2) [v22] h)]) o 0 m3 h3 T3 aa rfl aa aa (b3 o (Z7 _)) (fun k _ k2=>b3 k aa) z3 (fun h4 T4 t4=>by
        rw[hu]at T4;simp(disch:=try exact ac);rw[ho'];exact hK h4 T4 aa)
     rw[lm]at q;exact q
    cases hf;simp(disch:=try exact ac)[hr2,i1',i2',i3',i4'];refine cd (mF _) ?_;by_cases hneg:fe s.2 o c<0
    .have sg1:=(JS (fe s.2 o c)).2 hneg;simp(disch:=try exact ac)[sg1];refine aj ?_;simp(disch:=try exact ac)[i1',i2'];refine io (Md hB (T2.r o hos) (bds o (Z7 _)) (by rw[T2.ln o hos];exact hL) T2.hu) ?_ (by intro _ _ _ _ _ h;cases h);simp(disch:=try exact ac)
     have T3:=T2.row hos (r:=(nR s.2 o).r.map (- ·)) (by rw[List.length_map];exact T2.ln o hos);have eN:AW RwL.z RwL.r RwL.w c o s.2=s.2.set o ((nR s.2 o).w ((nR s.2 o).r.map (- ·))):=by unfold AW;rw[if_pos hneg]
     refine lo (tail _ _ T3 (by rw[Y7];omega) (by rw[Y7];exact ls) (fun k hk=>?_) ?_ (by rw[eN]) e1.symm)
     .unfold nR;rw[jG _ _ _ _ _ hos];split
      .exact ZI (bds o (Z7 _))
      .exact bds k hk
     ·have:fe (s.2.set o ((nR s.2 o).w ((nR s.2 o).r.map (- ·)))) o c = -(fe s.2 o c):=by
       show nth 0 (nth RwL.z _ o).r c=_
       rw[jG _ _ _ _ _ hos,if_pos rfl];exact SZ _ _
      rw[this];omega
    .have sg1:¬sgn (fe s.2 o c)<0:=fun g=>hneg ((JS _).1 g)
     simp(disch:=try exact ac)[sg1];refine aj ?_;simp(disch:=try exact ac);have eN:AW RwL.z RwL.r RwL.w c o s.2=s.2:=by unfold AW;rw[if_neg hneg]
     exact lo (tail s.2 h' T2 aa ls bds zs (by rw[eN]) e1.symm)
variable{b so eo L:Nat}{gh:Hp}{Bd c:Nat}
theorem zq(c:Nat):∀(f o:Nat)(m:List RwL)(o':Nat)(m':List RwL),o<m.length->mG RwL.z RwL.r RwL.w Bd c f o m=some (o',m')->o'<=m.length∧m'.length=m.length
 |0,o,m,o',m',ho,hf=>by simp[mG]at hf
 | f+1,o,m,o',m',ho,hf=>by
  simp only[mG]at hf;split at hf
  case isFalse=>cases hf
  split at hf
  .cases hf;exact⟨aa,rfl⟩
  .split at hf
   .have:=zq c f o _ o' m' (by rw[kS,fJ];exact ho) hf;rw[kS,fJ]at this;exact this
   .cases hf;exact⟨aa,by rw[MW,Di,kS,fJ]⟩
theorem Ou{cols f:Nat}(hB:Bd<=100000)(hL:L<1000000)(hcl:cols<=L)(h0:Hp)(h00:∀s,b<=s->s<h0.length->h0[s]?=some nnQ)(K:KL) :
  ∀(r c o:Nat)(m:List RwL)(h:Hp)(o':Nat)(m':List RwL),Tr b gh h so eo L m->m.length<1000000->h0.length=h.length->o<=m.length->c+r=cols->wT RwL.z RwL.r RwL.w Bd f r c o m=some (o',m') ->
  (∀h',Tr b gh h' so eo L m'->h'.length=h.length->o'<=m'.length->m'.length=m.length->K (.exit 0) [I o'] h') ->
  lp (gm (CX Y) b (ouV so eo m.length) (I cols)) [b+0,b+1,b+2] h0 [I o,I c] h K
 | 0,c,o,m,h,o',m',T,hm,hh,ho,hc,hf,hK=>by
  refine ak ?_;simp only[wT]at hf;cases hf;have hlt:¬((c:Int)<(cols:Int)):=aa;simp only[gm];simp(disch:=try exact ac)[hlt];exact hK h T rfl ho rfl
 | r+1,c,o,m,h,o',m',T,hm,hh,ho,hc,hf,hK=>by
  refine ak ?_;simp only[wT]at hf;have hlt:((c:Int)<(cols:Int)):=aa;have l1:bf (ouV so eo m.length)=some (I m.length):=rfl;simp only[gm];by_cases hom:o<m.length
  .rw[if_pos hom]at hf;have hom2:((o:Int)<(m.length:Int)):=aa;cases hr:mG RwL.z RwL.r RwL.w Bd c f o m with
   |none=>rw[hr]at hf;cases hf
   | some q=>
    obtain⟨o1,m1⟩:=q;rw[hr]at hf;simp only at hf;obtain⟨r1,r2⟩:=zq c f o m o1 m1 hom hr;simp(disch:=try exact ac)[hlt,l1,hom2];refine lo (Ot (c:=c) aa hB hL h T.ow _ f o m h o1 m1 T hm rfl hom hr fun h' T1 t1=>?_)
    have cl:clean [b,b+1,b+2] [I (o1:Int),I ((c:Int)+1)] h'=true:=by
     simp only[clean,Z8];exact⟨rfl,tz (b:=b) af T1.u 0⟩
    have rs1:aL [b,b+1,b+2] 0 h0 h'=h':=r8 (b:=b) af 0 h0 h' aa fun s h1' h2'=>⟨T1.ow s aa h2',h00 s aa aa⟩
    have ih:=Ou hB hL hcl h0 h00 K r (c+1) o1 m1 h' o' m' T1 aa aa aa aa hf (fun h2 a1 a2 a3 a4=>hK h2 a1 aa a3 aa);have e1:((c+1:Nat):Int)=(c:Int)+1:=aa;rw[r2,e1]at ih;simp(disch:=try exact ac)[cl,rs1];exact lo ih
  .rw[if_neg hom]at hf;cases hf;have hom2:¬((o:Int)<(m.length:Int)):=aa;simp(disch:=try exact ac)[hlt,l1,hom2];exact hK h T rfl ho rfl
theorem Tr.eq{b so eo L:Nat}{gh h1 h2:Hp}{m:List RwL}(T1:Tr b gh h1 so eo L m)(T2:Tr b gh h2 so eo L m):h1=h2:=by
 apply X9;intro i;by_cases e:i=so
 .subst e;rw[T1.o,T2.o]
 .by_cases e2:∃k,k<m.length∧(nth RwL.z m k).s=i
  .obtain⟨k,hk,rfl⟩:=e2;rw[T1.r k hk,T2.r k hk]
  .have hn:∀k,k<m.length->(nth RwL.z m k).s≠i:=fun k hk he=>e2 ⟨k,hk,he⟩
   rw[T1.fr i e hn,T2.fr i e hn]
theorem Tr.app{b so eo L:Nat}{gh h:Hp}{m:List RwL}(T:Tr b gh h so eo L m)(hb:h.length=b)(hg:gh.length=b)(n:Nat):Tr b (gh++List.replicate n nnQ) (h++List.replicate n nnQ) so eo L m where
 o:=by rw[List.getElem?_append_left (by have:=T.so;omega)];exact T.o
 r:=fun i hi=>by rw[List.getElem?_append_left (by have:=T.sb i hi;omega)];exact T.r i hi
 nd:=T.nd
 no:=T.no
 ln:=T.ln
 fr:=fun s hs hn=>by
  by_cases hlt:s<b
  .rw[List.getElem?_append_left aa,List.getElem?_append_left aa];exact T.fr s hs hn
  .rw[List.getElem?_append_right aa,List.getElem?_append_right aa,hb,hg]
 so:=T.so
 sb:=T.sb
 u:=by
  rw[Y3,T.u,Yk];simp[aA]
 bl:=by simp;omega
 ow:=fun s hs hl=>by
  rw[List.getElem?_append_right aa,List.getElem?_replicate,if_pos (by simp at hl;omega)]
theorem adm{h:Hp}{so eo n k:Nat}(hg:h[so]?=some (eo,.vars cs))(hc:cs.length=n)(hk:k<=n):slV h 1 (ouV so eo n) none (some (I k))=some (.ref so eo 0 k n n):=by
 have g:aC h so eo=.vars cs:=by simp[aC,hg]
 simp only[ouV,slV,g,boV];rw[if_pos ⟨aa,aa⟩];simp[hc]
theorem J3{h h':Hp}{so eo L cols f o':Nat}{m m':List RwL}{Bd:Nat}(hB:Bd<=100000)(hL:L<1000000)(hm:m.length<1000000)(hcl:cols<=L)(T:Tr h.length h h so eo L m)
  (hf:DZ RwL.z RwL.r RwL.w Bd f cols m=some (o',m')) (T':Tr h.length h h' so eo L m') (hl:h'.length=h.length) :
  CI Y F.cw [ouV so eo m.length,I cols] h (.ref so eo 0 o' m.length m.length) h':=by
 refine pJ ?_;simp only[cw];simp(disch:=try exact ac);have T0:=T.app rfl rfl 3;refine lo (Ou hB hL hcl (h++List.replicate 3 nnQ) T0.ow _ cols 0 0 m _ o' m' T0 hm rfl aa aa hf fun H TH lH ho hlm=>?_);have e:=TH.eq (T'.app hl rfl 3);subst e;have sl:=adm (k:=o') TH.o (n:=m.length) (by simp[hlm]) aa
 have sl':slV (h'++[(0,Bk.none),(0,Bk.none),(0,Bk.none)]) 1 (ouV so eo m.length) none (some (I o'))=some (.ref so eo 0 o' m.length m.length):=sl;simp(disch:=try exact ac)[sl'];refine⟨by rw[X6 hl],T'.u,.inl ⟨rfl,?_⟩⟩;simpa[under,W0]using T.so
theorem aaB{s s' e i cap tot by_:Nat}{old:LdQ}{ex:Bool}{x:D}{h:Hp}{q:kkQ}{u:PU q}(hg:h[s']?=some (e,.data 1 old ex false))(hi:i<cap)(hc:cap<=old.length)(ht:tot=old.length)
  (hq:q (.ref s' e 0 (i+1) cap tot) (h.set s' (e,.data 1 (old.set i x) ex false))):rh (apV false s 1 by_ (.ref s' e 0 i cap tot) (.d (.sl 1 [x])) h) q u:=by
 subst ht;have g:aC h s' e=.data 1 old ex false:=by simp[aC,hg]
 show apV false s 1 by_ _ _ h q
 simp only[apV,cellsOf];rw[if_pos af];unfold apC;rw[if_neg ae];simp only[g];rw[if_pos ⟨trivial,trivial,aa,aa,af⟩,if_pos aa];simp only[Bool.or_self,Ze,if_false,b6];have e1:old.set i x=old.take i++x::old.drop (i+1):=by rw[Yh,if_pos aa]
 rw[e1]at hq;simpa using hq
structure Rd(h:Hp)(x:V)(r:LiQ):Prop where
 n:bf x=some (I r.length)
 g:∀(t:Hp)(j:Nat),j<r.length->∃p,ixV (h++t) 1 x (I j)=some p∧ld1 (h++t) p=some (I (nth 0 r j))
theorem Rd.data(h:Hp)(r:LiQ):Rd h (lst di r) r where
 n:=by simp[lst,bf]
 g:=fun t j hj=>⟨_,mK di r _ (i:=(j:Int)) aa aa,by
  have:=fB di 0 r (h++t) (j:=j) hj;simpa using this⟩
def lgB(r:LiQ)(n i:Nat):Nat×Bk:=(1,.data 1 ((r.take i).map sI++List.replicate (n-i) (.str [])) true false)
theorem XD{r:LiQ}(hi:i<r.length):((r.take i).map sI++List.replicate (r.length-i) (D.str [])).set i (sI (nth 0 r i))=(r.take (i+1)).map sI++List.replicate (r.length-(i+1)) (.str []):=by
 have e1:List.replicate (r.length-i) (D.str [])=.str []::List.replicate (r.length-(i+1)) (.str []):=by
  rw[<-List.replicate_succ];congr 1;omega
 have e2:r.take (i+1)=r.take i++[nth 0 r i]:=by rw[List.take_succ_eq_append_getElem hi,cF _ _ _ hi]
 have hl:((r.take i).map sI).length=i:=by simp;omega
 rw[e1,e2,Yo _ _ aa,hl,Zd];simp
theorem Ga{h:Hp}{x:V}{r:LiQ}(hr:Rd h x r)(hz:∀z∈r,-9223372036854775808<z∧z<9223372036854775808)(hn:r.length<1000000)(h0:Hp)(hh:h0.length=h.length+2)(K:KL) :
  ∀(k i:Nat),i+k=r.length->K (.exit 0) [.ref h.length 1 0 r.length r.length r.length] (h++[lgB r r.length r.length,nnQ]) ->
  lp (mi (CX Y) h.length x (I r.length)) [] h0 [.ref h.length 1 0 i r.length r.length,I i] (h++[lgB r r.length i,nnQ]) K
 | 0,i,hk,hK=>by
  refine ak ?_;have hlt:¬((i:Int)<(r.length:Int)):=aa;have:i=r.length:=aa;subst this;simp only[mi];simp(disch:=try exact ac)[hlt];exact hK
 | k+1,i,hk,hK=>by
  refine ak ?_;have hlt:((i:Int)<(r.length:Int)):=aa;have hi:i<r.length:=aa;obtain⟨p,p1,p2⟩:=hr.g [lgB r r.length i,nnQ] i hi;obtain⟨z1,z2⟩:=hz (nth 0 r i) (eM hi);simp only[mi];simp(disch:=try exact ac)[hlt,p1,p2];refine cd (kt z1 z2) ?_
  have hli:dW 1 [D.str []] [(0,S (itoa (nth 0 r i)))] (h++[lgB r r.length i,nnQ])=some ([sI (nth 0 r i)],h++[lgB r r.length i,nnQ]):=by
   simp[dW,gD,iW,toD,norm,sI]
  simp(disch:=try exact ac)[hli];refine aaB (i:=i) (e:=1) (old:=(r.take i).map sI++List.replicate (r.length-i) (.str [])) (ex:=true) (by simp[lgB]) hi aM aM ?_;rw[XD hi,Yo _ _ (Z7 _),Zd];have e1:((i+1:Nat):Int)=(i:Int)+1:=aa;have ih:=Ga hr hz hn h0 hh K k (i+1) aa hK;rw[e1]at ih
  simp(disch:=try exact ac)[List.set_cons_zero];exact lo (by simpa[lgB]using ih)
theorem PZ(n:Nat)(z:D):gD n [z]=List.replicate n z:=by
 induction n with
 |zero=>rfl
 |succ n ih=>simp[gD,ih,List.replicate_succ]
theorem JX{s e by_ n:Nat}{b0:Bk}{z:D}{h:Hp}{k:kkQ}{u:PU k}(hs:h[s]?=some (e,b0))(hb:(by_:Int)*(n:Int)<=281474976710656)(hn:n<=1000000)
  (hk:k (.ref s (e+1) 0 0 n n) (h.set s (e+1,.data 1 (List.replicate n z) true false))):rh (mkS s by_ [z] h (I 0) (I n)) k u:=by
 show mkS s by_ [z] h (I 0) (I n) k
 simp only[mkS];rw[if_pos ⟨aa,aa,af,hb,aa⟩];simp only[new,hs,PZ,Int.toNat_natCast,Zc,List.length_cons,List.length_nil];exact hk
theorem F9{h:Hp}{x:V}{r:LiQ}(hr:Rd h x r)(hz:∀z∈r,-9223372036854775808<z∧z<9223372036854775808)(hn:r.length<1000000)(hu:(h.all fun x=>aA h.length x.2)=true):
  CI Y F.fC [x] h (.new 1 (r.map sI) true r.length r.length) h:=by
 refine zL ?_;simp only[fC];have l1:=hr.n;have hn2:(16:Int)*(r.length:Int)<=281474976710656:=aa;simp(disch:=try exact ac)[l1];refine JX (e:=0) (b0:=.none) af hn2 aa ?_;rw[Yo _ _ (Z7 _),Zd];simp(disch:=try exact ac)[l1]
 have lp1:=Ga hr hz hn (h++[(1,Bk.data 1 (List.replicate r.length (D.str [])) true false),(0,Bk.none)]) af (exK
      [(Exit.exit 0,fun l4 h_2=>
        nB (List.length h) (V.new 1 (List.map sI r) true r.length r.length) h (ge l4 0) h_2)]) r.length 0 aa (by
   simp(disch:=try exact ac);refine⟨af,?_,.inr (.inr (.inl ⟨h.length,1,r.length,r.length,1,r.map sI,true,af,Z7 _,by simp[aC,lgB],rfl⟩))⟩;exact hu)
 exact lo (by simpa[lgB]using lp1)
theorem QM{h:Hp}{n:Nat}(hn:n<1000000)(hu:(h.all fun x=>aA h.length x.2)=true):
  CI Y F.jR [I n] h (.new 1 ((List.replicate n 0).map sI) true n n) h:=by
 refine A3 ?_;simp only[jR];simp(disch:=try exact ac);obtain⟨H,hH⟩:=nmQ (h++[(1,Bk.data 1 (List.replicate n (D.int IntKind.i64 0)) true false),(0,Bk.none)])
 have hg:∀t:Hp,aC (H++t) h.length 1=.data 1 (List.replicate n (D.int IntKind.i64 0)) true false:=fun t=>by
  have:(H++t)[h.length]?=some (1,Bk.data 1 (List.replicate n (D.int IntKind.i64 0)) true false):=by
   rw[hH,List.append_assoc,List.getElem?_append_right (Z7 _),Zd];rfl
  simp[aC,this]
 have hr:Rd H (.ref h.length 1 0 n n n) (List.replicate n 0):=by
  refine⟨by simp[bf],fun t j hj=>⟨.ptr h.length 1 j n,?_,?_⟩⟩
  .rw[Zc]at hj;simp only[ixV,hg t];rw[if_pos ⟨af,aa,aa⟩];simp
  .rw[Zc]at hj;simp only[ld1,hg t];rw[if_pos af];have e2:nth 0 (List.replicate n (0:Int)) j=0:=by simp[nth,hj]
   rw[e2];simp[hj]
 have hu2:(H.all fun x=>aA H.length x.2)=true:=by
  refine vL (b:=h.length) (by rw[hH];simp) ?_;rw[hH,Y3,hu];simp[aA]
 have lg:=F9 hr (fun z hz=>by rw[Wz]at hz;omega) (by simpa using hn) hu2;rw[<-hH];refine fG lg (s:=h.length+1) (e:=0) (b:=.none) (by rw[hH,List.getElem?_append_right aa];simp) ?_;refine⟨by rw[hH,Yo _ _ aa];simp,hu,.inr (.inr (.inl ⟨h.length+1,1,n,n,1,(List.replicate n 0).map sI,true,af,aa,?_,rfl⟩))⟩
 have:(H.set (h.length+1) (0+1,Bk.data 1 ((List.replicate n 0).map sI) true false))[h.length+1]?=some (1,Bk.data 1 ((List.replicate n 0).map sI) true false):=by
  rw[List.getElem?_set_self (by rw[hH];simp)]
 simp only[aC,this,if_true]
theorem agl:uK RwL.z RwL.r RwL.w ([]:LiQ) (fun r=>r) (fun _ r=>r) RwL.r:=⟨rfl,fun _=>rfl,fun _ _=>rfl⟩
section
variable{b so eo L n:Nat}{gh:Hp}{Q:RwL->Prop}
def TrE(Q:RwL->Prop)(b:Nat)(gh:Hp)(so eo L n:Nat)(m:List RwL):Prop:=(∃h',Tr b gh h' so eo L m∧h'.length=n)∧∀i,i<m.length->Q (nR m i)
theorem B6{m:List RwL}(hc:∀i,i<m.length->Q (nR m i))(hi:i<m.length){R:RwL}(hR:Q R):∀j,j<(m.set i R).length->Q (nR (m.set i R) j):=fun j hj=>by
 rw[Y7]at hj;rw[nR,jG _ _ _ _ _ hi];split
 .exact hR
 .exact hc j hj
theorem TrE.swap{m:List RwL}(T:TrE Q b gh so eo L n m){i j:Nat}(hi:i<m.length)(hj:j<m.length):TrE Q b gh so eo L n (mg RwL.z m i j):=by obtain⟨⟨h,T,e⟩,hc⟩:=T;exact⟨⟨_,T.swap hi hj,by simp[e]⟩,B6 (B6 hc hi (hc j hj)) (by simpa using hj) (hc i hi)⟩
variable(hQ:∀R r,Q R->Q (RwL.w R r))
include hQ
theorem TrE.take{m:List RwL}(T:TrE Q b gh so eo L n m)(c:Nat){o:Nat}(ho:o<m.length)(hi:i<m.length):TrE Q b gh so eo L n (jy RwL.z RwL.r RwL.w c o m i):=by obtain⟨⟨h,T,e⟩,hc⟩:=T;refine⟨⟨_,T.row hi (r:=rZ _ (nR m i).r (nR m o).r) ?_,by simp[e]⟩,B6 hc hi (hQ _ _ (hc i hi))⟩;rw[CL _ _ _ ((T.ln i hi).trans (T.ln o ho).symm)];exact T.ln i hi
theorem TrE.sweep(c:Nat){o:Nat}:∀(r i:Nat)(f:Bool)(m:List RwL),TrE Q b gh so eo L n m->o<m.length->i+r<=m.length->TrE Q b gh so eo L n (kT RwL.z RwL.r RwL.w c o r i f m).2
 |0,_,_,_,T,_,_=>T
 | r+1,i,f,m,T,ho,hi=>by
  simp only[kT];exact TrE.sweep c r (i+1) _ _ (TrE.take hQ T c ho aa) (by rw[mP];exact ho) (by rw[mP];omega)
theorem TrE.up(c:Nat){o:Nat}:∀(r i:Nat)(m:List RwL),TrE Q b gh so eo L n m->o<m.length->i+r<=m.length->TrE Q b gh so eo L n (upG RwL.z RwL.r RwL.w c o r i m)
 |0,_,_,T,_,_=>T
 | r+1,i,m,T,ho,hi=>by
  simp only[upG];exact TrE.up c r (i+1) _ (TrE.take hQ T c ho aa) (by rw[mP];exact ho) (by rw[mP];omega)
theorem TrE.neg{m:List RwL}(T:TrE Q b gh so eo L n m)(c:Nat){o:Nat}(ho:o<m.length):TrE Q b gh so eo L n (AW RwL.z RwL.r RwL.w c o m):=by
 unfold AW;split
 .obtain⟨⟨h,T,e⟩,hc⟩:=T;exact⟨⟨_,T.row ho (r:=(nR m o).r.map (- ·)) (by rw[List.length_map];exact T.ln o ho),by simp[e]⟩,B6 hc ho (hQ _ _ (hc o ho))⟩
 .exact T
theorem TrE.round(B c:Nat):∀(f o:Nat)(m:List RwL)(o':Nat)(m':List RwL),TrE Q b gh so eo L n m->o<m.length->mG RwL.z RwL.r RwL.w B c f o m=some (o',m')->TrE Q b gh so eo L n m'
 |0,o,m,o',m',_,_,hf=>by simp[mG]at hf
 | f+1,o,m,o',m',T,ho,hf=>by
  simp only[mG]at hf;split at hf
  case isFalse=>cases hf
  split at hf
  .cases hf;exact T
  .rename_i ha;have h1:=MM (d:=RwL.z) (g:=RwL.r) c m (m.length-o) o (-1) aa aa
   have hs:TrE Q b gh so eo L n (kT RwL.z RwL.r RwL.w c o (m.length-(o+1)) (o+1) false (mg RwL.z m o (atG RwL.z RwL.r c m (m.length-o) o (-1)).toNat)).2:=
    TrE.sweep hQ c _ _ _ _ (TrE.swap T ho aa) (by rw[fJ];exact ho) (by rw[fJ];omega)
   split at hf
   .exact TrE.round B c f o _ o' m' hs (by rw[kS,fJ];exact ho) hf
   .cases hf;exact TrE.up hQ c _ _ _ (TrE.neg hQ hs c (by rw[kS,fJ];exact ho)) (by rw[Di,kS,fJ];exact ho) (by rw[Di,kS,fJ];omega)
theorem TrE.cols(B f:Nat):∀(r c o:Nat)(m:List RwL)(o':Nat)(m':List RwL),TrE Q b gh so eo L n m->o<=m.length->wT RwL.z RwL.r RwL.w B f r c o m=some (o',m')->TrE Q b gh so eo L n m'∧o'<=m.length∧m'.length=m.length
 |0,c,o,m,o',m',T,ho,hf=>by cases hf;exact⟨T,ho,rfl⟩
 | r+1,c,o,m,o',m',T,ho,hf=>by
  simp only[wT]at hf;split at hf
  .rename_i hlt;cases hr:mG RwL.z RwL.r RwL.w B c f o m with
   |none=>rw[hr]at hf;cases hf
   | some q=>
    obtain⟨o1,m1⟩:=q;rw[hr]at hf;obtain⟨r1,r2⟩:=zq c f o m o1 m1 hlt hr;obtain⟨a1,a2,a3⟩:=TrE.cols B f r (c+1) o1 m1 o' m' (TrE.round hQ B c f o m o1 m1 T hlt hr) aa hf;exact⟨a1,aa,aa⟩
  .cases hf;exact⟨T,ho,rfl⟩
theorem Kq{h:Hp}{cols o':Nat}{m:List RwL}{Bd:Nat}(T:Tr b gh h so eo L m)(hc:∀i,i<m.length->Q (nR m i))(hf:DZ RwL.z RwL.r RwL.w Bd f cols m=some (o',m')):((∃h',Tr b gh h' so eo L m'∧h'.length=h.length)∧∀i,i<m'.length->Q (nR m' i))∧o'<=m.length∧m'.length=m.length:=
 TrE.cols hQ Bd f cols 0 0 m o' m' ⟨⟨h,T,rfl⟩,hc⟩ (Yf _) hf
omit hQ in
/-- The plain rows tell what form finds of rows in slots. -/
theorem Om{cols o':Nat}{m:List RwL}{z:Mz}{Bd:Nat}(hz:DY Bd f cols (m.map RwL.r)=some (o',z)):∃m',DZ RwL.z RwL.r RwL.w Bd f cols m=some (o',m')∧m'.map RwL.r=z:=by
 unfold DY at hz;rw[agl.form]at hz;cases hq:DZ RwL.z RwL.r RwL.w Bd f cols m with
 |none=>rw[hq]at hz;cases hz
 | some q=>
  rw[hq]at hz;cases hz;exact⟨q.2,rfl,rfl⟩
end
theorem Tr.up{b c so eo L:Nat}{gh h:Hp}{m:List RwL}(T:Tr b gh h so eo L m)(hbc:b<=c)(hc:c<=h.length):Tr c gh h so eo L m where
 o:=T.o
 r:=T.r
 nd:=T.nd
 no:=T.no
 ln:=T.ln
 fr:=T.fr
 so:=by have:=T.so;omega
 sb:=fun i hi=>by have:=T.sb i hi;omega
 u:=vL hbc T.u
 bl:=hc
 ow:=fun s hs hl=>T.ow s aa hl
def um(r:LiQ):D:=.sl r.length (r.map sI)
def sy(m:Mz):V:=lst um m
@[simp]theorem acn(r:LiQ):norm (um r)=um r:=rfl
def LX(h:Hp)(R:RwL):Prop:=∃f,h[R.s]?=some (R.e,.data 1 (R.pre++R.r.map sI++R.post) R.ex f)
theorem QY{h:Hp}{R:RwL}(hc:R.r.length<=R.cap)(hR:LX h R):∃h1,toD h R.v=some (um R.r,h1)∧(∀S,LX h S->LX h1 S)∧(∀(s e:Nat)(vs:LwQ),h[s]?=some (e,Bk.vars vs)->h1[s]?=some (e,Bk.vars vs)):=by
 obtain⟨f,hf⟩:=hR;have hlt:=(List.getElem?_eq_some_iff.1 hf).1;refine⟨h.set R.s (R.e,.data 1 (R.pre++R.r.map sI++R.post) R.ex true),?_,fun S ⟨g,hg⟩=>?_,fun s e vs hs=>?_⟩
 .simp only[RwL.v,toD,aC,hf,if_true];rw[if_pos ⟨R.tl,hc,af⟩];simp[b6,um]
 .by_cases e:R.s=S.s
  .rw[e]at hf hlt ⊢;rw[hf]at hg;simp only[Z9,Z6,Bk.data.injEq]at hg;refine⟨true,?_⟩;rw[List.getElem?_set_self hlt];simp only[Z9,Z6,Bk.data.injEq];exact⟨hg.1,trivial,hg.2.2.1,hg.2.2.2.1,trivial⟩
  .exact⟨g,by rw[List.getElem?_set_ne e];exact hg⟩
 .have:R.s≠s:=fun e=>by rw[e,hs]at hf;cases hf
  rw[List.getElem?_set_ne this];exact hs
theorem M4:∀(l:List RwL)(h:Hp),(∀R∈l,LX h R)->(∀R∈l,R.r.length<=R.cap) ->
  ∃h1,iW h (l.map RwL.v)=some (l.map (fun R=>um R.r),h1)∧(∀(s e:Nat)(vs:LwQ),h[s]?=some (e,Bk.vars vs)->h1[s]?=some (e,Bk.vars vs))
 |[],h,_,_=>⟨h,rfl,fun _ _ _ hs=>hs⟩
 | R::l,h,ho,hc=>by
  obtain⟨h1,e1,k1,v1⟩:=QY (hc R af) (ho R af);obtain⟨h2,e2,v2⟩:=M4 l h1 (fun S hS=>k1 S (ho S (by simp[hS]))) (fun S hS=>hc S (by simp[hS]));exact⟨h2,by simp[iW,e1,e2],fun s e vs hs=>v2 s e vs (v1 s e vs hs)⟩
theorem FO{so eo o:Nat}{h:Hp}{m:List RwL}(hs:h[so]?=some (eo,.vars (m.map RwL.v)))(hr:∀R∈m,LX h R)(hc:∀R∈m,R.r.length<=R.cap)(h0:m≠[])(ho:o<=m.length):
  ∃h1,aJ h (.ref so eo 0 o m.length m.length)=some (sy ((m.map RwL.r).take o),h1):=by
 obtain⟨h1,e1,v1⟩:=M4 m h hr hc;have g1:=v1 _ _ _ hs;have g0:aC h so eo=.vars (m.map RwL.v):=by simp[aC,hs]
 have hd:EW (m.map RwL.v)=none:=by
  cases m with
  |nil=>exact absurd rfl h0
  |cons R m=>simp[EW,RwL.v]
 refine⟨b6 h1 so eo (.data 1 (m.map fun R=>um R.r) false true),?_⟩;have t1:toD h (.ref so eo 0 o m.length m.length)=none:=by simp[toD,g0,hd]
 have t2:Q0 h (.ref so eo 0 o m.length m.length)=some (.sl o ((m.map fun R=>um R.r).take o),b6 h1 so eo (.data 1 (m.map fun R=>um R.r) false true)):=by
  simp only[Q0,g0,e1];have:aC h1 so eo=.vars (m.map RwL.v):=by simp[aC,g1]
  simp only[this];rw[if_pos aM];simp
 simp only[aJ,t1,t2,sy,lst];simp[Yz ho,Function.comp_def]
def lgR(ex:Bool)(s:Nat):LLQ->List RwL
 |[]=>[]
 |r::l=>⟨s,1,[],[],ex,r.length,r⟩::lgR ex (s+1) l
theorem N9(ex:Bool)(s:Nat)(l:LLQ)(r:LiQ):lgR ex s (l++[r])=lgR ex s l++[⟨l.length+s,1,[],[],ex,r.length,r⟩]:=by
 induction l generalizing s with
 |nil=>simp[lgR]
 | cons x l ih=>
  simp only[List.cons_append,lgR,ih,List.length_cons];rw[show l.length+(s+1)=l.length+1+s by omega]
@[simp] theorem BR (ex:Bool)(s:Nat)(l:LLQ):(lgR ex s l).length=l.length:=by
 induction l generalizing s with
 |nil=>rfl
 |cons x l ih=>simp[lgR,ih]
@[simp] theorem aah (ex:Bool)(s:Nat)(l:LLQ):(lgR ex s l).map RwL.r=l:=by
 induction l generalizing s with
 |nil=>rfl
 |cons x l ih=>simp[lgR,ih]
theorem N8(ex:Bool)(s:Nat):∀(l:LLQ)(i:Nat),i<l.length->nth RwL.z (lgR ex s l) i=⟨i+s,1,[],[],ex,(nth [] l i).length,nth [] l i⟩
 |r::l,0,_=>by simp[lgR,nth]
 | r::l,i+1,h=>by
  have:=N8 ex (s+1) l i (by simpa using h);simp only[lgR];simp only[nth,List.getD_cons_succ]at this ⊢;rw[this,show i+(s+1)=i+1+s by omega]
theorem TJ(ex:Bool)(s:Nat)(l:LLQ):∀R∈lgR ex s l,s<=R.s∧R.s<l.length+s:=by
 induction l generalizing s with
 |nil=>simp[lgR]
 | cons x l ih=>
  intro R hR;simp only[lgR,Zt]at hR;rcases hR with rfl|hR
  .exact⟨Z7 _,by simp only[List.length_cons];omega⟩
  .have:=ih (s+1) R hR;simp only[List.length_cons];omega
theorem HF(ex:Bool):∀(l:LLQ)(s:Nat)(pre post:Hp),pre.length=s->∀R∈lgR ex s l,(pre++((lgR ex s l).map RwL.k++post))[R.s]?=some R.k
 |[],_,_,_,_,R,hR=>by simp[lgR]at hR
 | r::l,s,pre,post,hp,R,hR=>by
  simp only[lgR,Zt]at hR ⊢;rcases hR with rfl|hR
  .rw[List.getElem?_append_right (by simp[hp])];simp[hp]
  .have:=HF ex l (s+1) (pre++[RwL.k ⟨s,1,[],[],ex,r.length,r⟩]) post (by simp[hp]) R hR;simpa[List.append_assoc]using this
theorem XC(ex:Bool)(s:Nat)(l:LLQ):∀R∈lgR ex s l,R.r.length<=R.cap:=by
 induction l generalizing s with
 |nil=>simp[lgR]
 | cons x l ih=>
  intro R hR;simp only[lgR,Zt]at hR;rcases hR with rfl|hR
  .exact Z7 _
  .exact ih (s+1) R hR
theorem RwL.ok{h:Hp}{R:RwL}(hR:h[R.s]?=some R.k):LX h R:=⟨false,hR⟩
theorem fK:∀(i:Nat)(h0 h:Hp),aL [] i h0 h=h
 |_,[],h=>by cases h<;>rfl
 |_,_::_,[]=>rfl
 |i,x0::h0,x::h=>by rw[pi,fK (i+1) h0 h];rfl
def loB(l:List RwL):Nat×Bk:=(l.length,if l=[]then .none else .vars (l.map RwL.v))
def loV(s:Nat)(l:List RwL):V:=if l=[]then .d nPQ else .ref s l.length 0 l.length l.length l.length
theorem sY{b:Nat}:∀(l:List RwL),(∀R∈l,R.s<b)->iV b (l.map RwL.v)=true
 |[],_=>rfl
 | R::l,h=>by
  have h1:=h R af;simp only[Zx,iV,sY l fun S hS=>h S (by simp[hS]),Yg,RwL.v,under];simpa[W0]using h1
theorem N4{b:Nat}(h:∀R∈l,R.s<b):aA b (loB l).2=true:=by
 simp only[loB];split
 .rfl
 .exact sY l h
theorem LH{b:Nat}(l:List RwL):((l.map RwL.k).all fun x=>aA b x.2)=true:=by simp[RwL.k,aA]
theorem Dg{b n:Nat}:((List.replicate n (nnQ:Nat×Bk)).all fun x=>aA b x.2)=true:=by simp[aA]
theorem HC{so:Nat}{l:List RwL}{R:RwL}{h:Hp}{y:V}{q:kkQ}{u:PU q}(hn:l.length<1000)(hy:rj h y=some (1,[R.v]))(hs:h[so]?=some (loB l))
  (hq:q (loV so (l++[R])) (h.set so (loB (l++[R])))):rh (apW false so 1 24 (loV so l) y h) q u:=by
 have hk:[R.v].all okV=true:=rfl;by_cases e:l=[]
 .subst e;refine ab6 hy hk aa aa hs ?_;simpa[loV,loB]using hq
 .have hp:0<l.length:=X4.2 e;simp only[loB,if_neg e]at hs;simp only[loV,if_neg e]
  have:=ZJ (s:=so) (s':=so) (e:=l.length) (by_:=24) (k:=1) (off:=0) (len:=l.length) (cap:=l.length) (old:=l.map RwL.v) (q:=q) (u:=u) hy hk aa hs rfl af af aa (by
   simpa[loV,loB,Z1]using hq)
  simpa using this
def loH(l:List RwL)(o:Nat×Bk):Hp:=loB l::o::(l.map RwL.k++List.replicate (12-l.length) nnQ)
theorem Dm{m:LLQ}(hm:m.length<=12)(hr:∀r∈m,r.length<1000000)(hz:∀r∈m,∀z∈r,-9223372036854775808<z∧z<9223372036854775808)(h0:Hp)(K:KL) :
  ∀(q a:LLQ)(o:Nat×Bk),m=a++q->o.1=a.length->aA 14 o.2=true->(∀o,K (.exit 0) [loV 0 (lgR true 2 m)] (loH (lgR true 2 m) o)) ->
  lp (jI (CX Y) (mat m) (I m.length)) [] h0 [loV 0 (lgR true 2 a),I a.length] (loH (lgR true 2 a) o) K
 | [],a,o,e,ho,hu,hK=>by
  simp only[Zj]at e;subst e;refine ak ?_;simp only[jI];have hlt:¬((m.length:Int)<(m.length:Int)):=aa;simp(disch:=try exact ac)[hlt];exact hK o
 | r::q,a,o,e,ho,hu,hK=>by
  refine ak ?_;have hlt:((a.length:Int)<(m.length:Int)):=by rw[e];simp;omega
  have hl:a.length<m.length:=aa;have hrm:r∈m:=by rw[e];simp
  have i1:ixV (loH (lgR true 2 a) o) 1 (mat m) (I a.length)=some (.dptr (m.map row) a.length):=by rw[e];exact oC row a r q _ _
  have i2:ld1 (loH (lgR true 2 a) o) (.dptr (m.map row) a.length)=some (lst di r):=by
   rw[lY row m _ hl];simp only[e,Zn (Z7 _),Zd,Zi];rfl
  have hlen:(loH (lgR true 2 a) o).length=14:=by simp[loH];omega
  have hu1:((loH (lgR true 2 a) o).all fun x=>aA (loH (lgR true 2 a) o).length x.2)=true:=by
   rw[hlen];simp only[loH,List.all_cons,Y3,hu,LH,Dg,Yg,Yk];exact N4 fun R hR=>by have:=TJ true 2 a R hR;omega
  simp only[jI];simp(disch:=try exact ac)[hlt,i1,i2];have hal:a.length<12:=aa
  have g1:(loH (lgR true 2 a) o)[a.length+2]?=some nnQ:=by
   simp only[loH,List.getElem?_cons_succ];rw[List.getElem?_append_right af,List.getElem?_replicate,if_pos aM]
  refine yM (a.length+2) ?_;refine fG (F9 (Rd.data _ r) (hz r hrm) (hr r hrm) hu1) g1 ?_;obtain⟨R,hR⟩:∃R:RwL,R=⟨a.length+2,1,[],[],true,r.length,r⟩:=⟨_,rfl⟩;have v1:V.ref (a.length+2) (0+1) 0 r.length r.length (r.map sI).length=R.v:=by rw[hR];simp[RwL.v,RwL.tot]
  have k1:((0+1,Bk.data 1 (r.map sI) true false):Nat×Bk)=R.k:=by rw[hR];simp[RwL.k]
  have e1:(loH (lgR true 2 a) o).set (a.length+2) R.k=loB (lgR true 2 a)::o::((lgR true 2 a++[R]).map RwL.k++List.replicate (12-(lgR true 2 a++[R]).length) nnQ):=by
   simp only[loH,List.set_cons_succ];rw[Yo _ _ af];simp only[List.length_map,BR,Zd,List.map_append,Zs,List.append_assoc,Zx,X7,List.length_cons,List.length_nil];rw[show 12-a.length=(12-(a.length+1))+1 by omega,List.replicate_succ,List.set_cons_zero];rfl
  have l2:lgR true 2 (a++[r])=lgR true 2 a++[R]:=by rw[N9,hR]
  rw[v1,k1,e1,<-l2];simp(disch:=try exact ac);refine yM 1 ?_;simp(disch:=try exact ac);refine Mb (e:=o.1) (b:=o.2) rfl (v:=R.v) rfl ?_;simp(disch:=try exact ac);refine yM 0 ?_;simp(disch:=try exact ac);refine(HC (l:=lgR true 2 a) (R:=R) aM (by simp[rj,aC]) rfl ?_);rw[<-l2]
  have ih:=Dm hm hr hz h0 K q (a++[r]) (o.1+1,.vars [R.v]) (by simp[e]) (by simp[ho]) (by rw[hR];simp[aA,iV,under,RwL.v,W0];omega) hK;have e2:((a++[r]).length:Int)=(a.length:Int)+1:=af;rw[e2]at ih;simp(disch:=try exact ac);refine lo ?_;have e3:12-(lgR true 2 (a++[r])).length=11-a.length:=af;rw[loH,e3]at ih;rw[fK];exact ih
theorem Dl{m:LLQ}(hm:m.length<=12)(hr:∀r∈m,r.length<1000000)(hz:∀r∈m,∀z∈r,-9223372036854775808<z∧z<9223372036854775808):CP Y F.lu [mat m] (sy m):=by
 refine wF ?_;simp only[qY];have h0:(List.replicate 14 (0,Bk.none))=loH (lgR true 2 []) nnQ:=rfl;simp(disch:=try exact ac);refine lo (Dm hm hr hz _ _ m [] nnQ rfl rfl rfl fun o=>?_);simp(disch:=try exact ac);by_cases hm0:m=[]
 .subst hm0;exact⟨_,rfl⟩
 .have hl:lgR true 2 m≠[]:=fun e=>hm0 (by have:=BR true 2 m;rw[e]at this;exact Zp this.symm)
  rw[loV,if_neg hl]
  obtain ⟨h1,e1⟩:=FO (so:=0) (eo:=(lgR true 2 m).length) (o:=(lgR true 2 m).length) (h:=loH (lgR true 2 m) o) (m:=lgR true 2 m) (by simp[loH,loB,hl])
   (fun R hR=>RwL.ok (HF true m 2 [loB (lgR true 2 m),o] _ rfl R hR)) (XC true 2 m) hl (Z7 _)
  rw[aah,BR,Xl]at e1;exact⟨h1,by rw[BR];exact e1⟩
def wN(m:Mz)(c:Nat):LiQ:=m.map fun r=>nth 0 r c
theorem Oe(p:Mz)(r:LiQ)(q:Mz)(h:Hp):ixV h 1 (sy (p++r::q)) (I p.length)=some (.dptr ((p++r::q).map um) p.length):=oC um p r q _ _
theorem Oc(p:Mz)(r:LiQ)(q:Mz)(h:Hp):ld1 h (.dptr ((p++r::q).map um) p.length)=some (lst sI r):=by rw[lY um _ h af];simp only[Zn (Z7 _),Zd,Zi];rfl
def acU(s:Nat):Acc:=⟨s,0,1,.none⟩
theorem TW{m:Mz}{c:Nat}(hc:∀r∈m,c<r.length)(hm:m.length<1000)(s0:Nat){hb:Hp}(hal:s0<hb.length)(h0:Hp)(K:KL):∀(q p:Mz),m=p++q ->
  K (.exit 2) [(acU s0).v m.length ((wN m c).map sI)] (hb.set s0 ((acU s0).b m.length ((wN m c).map sI))) ->
  lp (gX (CX Y) (I c) (sy m) (I m.length)) [] h0 [(acU s0).v p.length ((wN p c).map sI),I p.length] (hb.set s0 ((acU s0).b p.length ((wN p c).map sI))) K
 | [],p,e,hK=>by
  simp only[Zj]at e;subst e;refine ak ?_;have hlt:¬((m.length:Int)<(m.length:Int)):=aa;simp only[gX];simp(disch:=try exact ac)[hlt];exact hK
 | r::q,p,e,hK=>by
  refine ak ?_;have hlt:((p.length:Int)<(m.length:Int)):=by rw[e];simp;omega
  have hcr:c<r.length:=hc r (by rw[e];simp);have hpl:p.length<m.length:=by rw[e];simp
  obtain⟨H,hH⟩:=nmQ (hb.set s0 ((acU s0).b p.length ((wN p c).map sI)));have i1:ixV H 1 (sy m) (I p.length)=some (.dptr (m.map um) p.length):=by rw[e];exact Oe p r q H
  have i2:ld1 H (.dptr (m.map um) p.length)=some (lst sI r):=by rw[e];exact Oc p r q H
  have i3:ixV H 1 (lst sI r) (I c)=some (.dptr (r.map sI) c):=iC sI r H rfl hcr;have i4:ld1 H (.dptr (r.map sI) c)=some (.d (sI (nth 0 r c))):=fB sI 0 r H hcr;rw[<-hH];simp only[gX];have hli:dW 1 [D.str []] [(0,.d (sI (nth 0 r c)))] H=some ([sI (nth 0 r c)],H):=by simp[dW,gD,iW,toD,norm,sI]
  simp(disch:=try exact ac)[hlt,i1,i2,i3,i4,hli];refine yM s0 ?_;have hs:H[s0]?=some ((acU s0).b p.length ((wN p c).map sI)):=by rw[hH,List.getElem?_set_self hal]
  have e1:wN (p++[r]) c=wN p c++[nth 0 r c]:=by simp[wN]
  simp(disch:=try exact ac);refine oP (acU s0) (by_:=16) (k:=1) (cs:=[sI (nth 0 r c)]) aa hs (by simp[wN,acU]) (by simp[acU]) rfl (by intro t ht;cases ht) aa (by simp[acU]) ?_;rw[hH,show(acU s0).s=s0 from rfl,List.set_set];have ih:=TW hc hm s0 hal h0 K q (p++[r]) (by simp[e]) hK;have e2:((p++[r]).length:Int)=(p.length:Int)+1:=af
  rw[e2,e1,List.map_append,Zs]at ih;simp(disch:=try exact ac);rw[fK];refine lo ?_;simpa[Acc.v,Acc.b]using ih
def yS(n:Nat)(m:Mz)(c:Nat):LiQ:=wN m c++(List.replicate n (0:Int)).set c 1
def iq(n:Nat)(m:Mz)(c:Nat):List RwL:=lgR false 5 ((List.range c).map (yS n m))
@[simp]theorem yR(n:Nat)(m:Mz)(c:Nat):(iq n m c).length=c:=by simp[iq]
theorem Cc(n:Nat)(m:Mz)(c:Nat):(yS n m c).length=m.length+n:=by simp[yS,wN]
def kH(l:List RwL)(o:Nat×Bk):Hp:=nnQ::nnQ::nnQ::loB l::o::(l.map RwL.k++List.replicate (14-l.length) nnQ)
theorem CS:∀(clr:LnQ)(i:Nat)(h0 h:Hp),(∀c∈clr,c<i)->aL clr i h0 h=h
 |_,_,[],h,_=>by cases h<;>rfl
 |_,_,_::_,[],_=>rfl
 | clr,i,x0::h0,x::h,hc=>by
  rw[pi,CS clr (i+1) h0 h (fun c hcc=>by have:=hc c hcc;omega),if_pos (vi fun t ht=>by have:=hc t ht;omega)]
theorem Db{clr:LnQ}:∀(i:Nat)(h:Hp),(∀x∈h,offB clr x.2=true)->oU clr i h=true
 |_,[],_=>rfl
 |i,x::h,hx=>by rw[vW,hx x af,Bool.or_true,Yk,Db (i+1) h fun y hy=>hx y (by simp[hy])]
theorem C8{clr:LnQ}:∀(l:List RwL),(∀R∈l,gG clr R.s=true)->gW clr (l.map RwL.v)=true
 |[],_=>rfl
 | R::l,h=>by
  simp only[Zx,gW,RwL.v,oA,h R af,Yk];exact C8 l fun S hS=>h S (by simp[hS])
theorem WL(h:∀R∈l,gG clr R.s=true):offB clr (loB l).2=true:=by
 simp only[loB];split
 .rfl
 .exact C8 l h
theorem S5(h:0<s):gG [0] s=true:=vi fun t ht=>by simp at ht;omega
theorem TX{m:Mz}{n:Nat}(hn:n<=14)(hc:∀r∈m,r.length=n)(hm:m.length<1000)(t0:Hp)(K:KL):∀(k c:Nat)(o:Nat×Bk),c+k=n->o.1=c->aA 19 o.2=true->offB [0] o.2=true ->
  (∀o,aA 19 o.2=true->o.1=n->K (.exit 0) [loV 3 (iq n m n)] (kH (iq n m n) o)) ->
  lp (gY (CX Y) (sy m) (I n) (I n)) [0] (nnQ::t0) [loV 3 (iq n m c),I c] (kH (iq n m c) o) K
 | 0,c,o,e,ho,hu,hf,hK=>by
  refine ak ?_;have:c=n:=aa;subst this;have hlt:¬((c:Int)<(c:Int)):=aa;simp only[gY];simp(disch:=try exact ac)[hlt];exact hK o hu ho
 | k+1,c,o,e,ho,hu,hf,hK=>by
  refine ak ?_;have hlt:((c:Int)<(n:Int)):=aa;have l1:bf (sy m)=some (I m.length):=rfl;simp only[gY];simp(disch:=try exact ac)[hlt,l1]
  have b6:(kH (iq n m c) o).set (c+5) ((acU (c+5)).b 0 [])=kH (iq n m c) o:=by
   simp only[kH,List.set_cons_succ];rw[Yo _ _ af];simp only[List.length_map,yR,Zd];rw[show 14-c=(14-(c+1))+1 by omega,List.replicate_succ,List.set_cons_zero];rfl
  rw[<-b6];refine lo (TW (fun r hr=>by rw[hc r hr];omega) hm (c+5) (hb:=kH (iq n m c) o) (by simp[kH];omega) _ _ m [] rfl ?_);simp(disch:=try exact ac);obtain⟨X,hX⟩:=nmQ ((acU (c+5)).b m.length ((wN m c).map sI));obtain⟨tl,htl⟩:∃tl,tl=(iq n m c).map RwL.k++X::List.replicate (13-c) (0,Bk.none):=⟨_,rfl⟩
  have hA:(kH (iq n m c) o).set (c+5) X=nnQ::nnQ::nnQ::loB (iq n m c)::o::tl:=by
   simp only[kH,List.set_cons_succ];rw[Yo _ _ af];simp only[List.length_map,yR,Zd];rw[show 14-c=(13-c)+1 by omega,List.replicate_succ,List.set_cons_zero,htl]
  have O9:tl[c]?=some X:=by
   rw[htl,List.getElem?_append_right af];simp
  have tset:∀Y,tl.set c Y=(iq n m c).map RwL.k++Y::List.replicate (13-c) nnQ:=fun Y=>by
   rw[htl,Yo _ _ af];simp
  have tlen:tl.length=14:=by rw[htl];simp only[Zs,List.length_map,yR,List.length_cons,Zc]<;>omega
  have hrs:∀R∈iq n m c,0<R.s∧R.s<19:=fun R hR=>by have:=TJ false 5 _ R hR;simp at this;omega
  have htu:(tl.all fun x=>aA 19 x.2)=true:=by
   rw[htl,Y3,List.all_cons,LH,Dg,hX,Yk,Yg];cases m<;>rfl
  have hu0:((nnQ::nnQ::nnQ::loB (iq n m c)::o::tl:Hp).all fun x=>aA (nnQ::nnQ::nnQ::loB (iq n m c)::o::tl:Hp).length x.2)=true:=by
   simp only[List.length_cons,tlen,List.all_cons,hu,htu,Yg];exact N4 fun R hR=>(hrs R hR).2
  rw[<-hX,hA];refine fG (QM aa hu0) (s:=0) (e:=0) (b:=.none) rfl ?_;rw[List.set_cons_zero];obtain⟨R0,hR0⟩:∃R:RwL,R=⟨0,1,[],[],true,n,List.replicate n 0⟩:=⟨_,rfl⟩;have v0:V.ref 0 (0+1) 0 n n ((List.replicate n (0:Int)).map sI).length=R0.v:=by rw[hR0];simp[RwL.v,RwL.tot]
  have k0:((0+1,Bk.data 1 ((List.replicate n (0:Int)).map sI) true false):Nat×Bk)=R0.k:=by rw[hR0];simp[RwL.k]
  have s0:R0.s=0:=by rw[hR0]
  have r0:R0.r=List.replicate n 0:=by rw[hR0]
  rw[v0,k0];obtain⟨T,hT⟩:∃T:Hp,T=nnQ::nnQ::loB (iq n m c)::o::tl:=⟨_,rfl⟩;rw[<-hT];have g0:(R0.k::T)[R0.s]?=some R0.k:=by rw[s0];rfl
  have i1:ixV (R0.k::T) 1 R0.v (I c)=some (R0.p c):=Jj g0 (by rw[r0];simp<;>omega);have i2:=RJ g0 (j:=c) (by rw[r0];simp<;>omega) 1
  have e49:S (itoa 1)=V.d (D.str [49]):=by
   have:itoa 1=[49]:=aD;rw[this]
  rw[s0,List.set_cons_zero,e49]at i2;simp(disch:=try exact ac)[i1,i2];refine yM (c+5) ?_;simp(disch:=try exact ac);obtain⟨T1,hT1⟩:=nmQ ((R0.w (R0.r.set c 1)).k)
  have cy:cellsOf (T1::T) R0.v=some (n,((List.replicate n (0:Int)).set c 1).map sI):=by
   rw[hT1,hR0];simp[cellsOf,RwL.v,RwL.w,RwL.k,aC,RwL.tot];exact Z1 af
  have hs:(T1::T)[(acU (c+5)).s]?=some ((acU (c+5)).b m.length ((wN m c).map sI)):=by
   show(T1::T)[c+5]?=_
   rw[hT,<-hX];simpa using O9
  rw[<-hT1];refine oP (acU (c+5)) (by_:=16) (k:=n) (cs:=((List.replicate n (0:Int)).set c 1).map sI) aa hs (by simp[wN,acU]) (by simp[acU]) cy (by intro t ht;rw[hR0]at ht;cases ht) aa (by simp[acU]) ?_;obtain⟨R,hR⟩:∃R:RwL,R=⟨c+5,1,[],[],false,(yS n m c).length,yS n m c⟩:=⟨_,rfl⟩
  have hcell:(wN m c).map sI++((List.replicate n (0:Int)).set c 1).map sI=(yS n m c).map sI:=by simp[yS]
  have hL:m.length+n=(m.length+n-1)+1:=aa
  have vR:(acU (c+5)).v (m.length+n) ((yS n m c).map sI)=R.v:=by
   rw[hL,hR];simp only[Acc.v,RwL.v,RwL.tot,acU,Cc,List.length_map,List.length_nil];rw[<-hL];simp
  have bR:(acU (c+5)).b (m.length+n) ((yS n m c).map sI)=R.k:=by
   rw[hL,hR];simp[Acc.b,RwL.k,acU]
  have hw:iq n m (c+1)=iq n m c++[R]:=by
   simp only[iq,List.range_succ,List.map_append,Zx,X7];rw[N9,hR];simp
  have hse:(T1::T).set (acU (c+5)).s R.k=T1::nnQ::nnQ::loB (iq n m c)::o::tl.set c R.k:=by
   show(T1::T).set (c+5) R.k=_
   rw[hT];simp only[List.set_cons_succ]
  rw[hcell,vR,bR,hse];have Rs:R.s=c+5:=by rw[hR]
  simp(disch:=try exact ac);refine yM 4 ?_;simp(disch:=try exact ac);refine Mb (e:=o.1) (b:=o.2) rfl (v:=R.v) rfl ?_;simp(disch:=try exact ac);refine yM 3 ?_;simp(disch:=try exact ac);refine HC (l:=iq n m c) (R:=R) (by simp<;>omega) (by simp[rj,aC]) rfl ?_;rw[<-hw]
  have hR4:offB [0] (.vars [R.v])=true:=C8 [R] fun S hS=>by simp at hS;subst hS;exact S5 aa
  have ih:=TX hn hc hm t0 K k (c+1) (o.1+1,.vars [R.v]) aa (by simp[ho]) (sY [R] fun S hS=>by simp at hS;subst hS;omega) hR4 hK;have e2:((c+1:Nat):Int)=(c:Int)+1:=aa;rw[e2]at ih
  have hk:kH (iq n m (c+1)) (o.1+1,.vars [R.v])=nnQ::nnQ::nnQ::loB (iq n m (c+1))::(o.1+1,.vars [R.v])::tl.set c R.k:=by
   rw[kH,tset,hw];simp<;>omega
  have rs:aL [0] 0 ((0,Bk.none)::t0) (T1::(0,Bk.none)::(0,Bk.none)::loB (iq n m (c+1))::(o.1+1,Bk.vars [R.v])::tl.set c R.k)=kH (iq n m (c+1)) (o.1+1,.vars [R.v]):=by
   rw[hk,pi,CS [0] (0+1) _ _ af];rfl
  have cl:clean [0] [loV 3 (iq n m (c+1)),I ((c:Int)+1)] (T1::(0,Bk.none)::(0,Bk.none)::loB (iq n m (c+1))::(o.1+1,Bk.vars [R.v])::tl.set c R.k)=true:=by
   simp only[clean,Z8];refine⟨?_,Db 0 _ fun x hx=>?_⟩
   .simp only[loV];split<;>rfl
   .simp only[Zt,tset,Yn,Zf,Wz]at hx;rcases hx with rfl|rfl|rfl|rfl|rfl|⟨S,_,rfl⟩|rfl|⟨_,rfl⟩
    .rw[hT1];rfl
    .rfl
    .rfl
    .refine WL fun S hS=>S5 ?_
     have:=TJ false 5 _ S hS;omega
    .exact hR4
    .rfl
    .rfl
    .rfl
  have ea:biI BinOp.add (I c) (V.d (D.int IntKind.i64 1))=some (I ((c:Int)+1)):=by simp(disch:=try exact ac)
  show bnd (biI BinOp.add (I c) (V.d (D.int IntKind.i64 1))) _
  rw[ea];refine⟨cl,?_⟩;rw[<-rs]at ih;exact ih
@[simp]theorem aeY(z:Int):norm (sI z)=sI z:=rfl
theorem TN(z:Int):CP Y F.dO [.d (sI z)] (B (decide (z≠0))):=by
 refine tG ?_;by_cases h:z=0
 .have t0:=(rT z).2 h;simp(disch:=try exact ac)[dO,sI,t0];exact dX (by simp[h])
 .have t0:¬itoa z=[48]:=fun g=>h ((rT z).1 g)
  have t1:(itoa z == [48])=false:=by simpa using t0
  simp(disch:=try exact ac)[dO,sI,t1];exact dX (by simp[h])
def J5(l:LiQ):Int:=idx (fun z=>decide (z≠0)) l
theorem Tu(l:LiQ)(hl:l.length<1000000):CP Y F.gZ [lst sI l] (I (J5 l)):=by
 refine wK ?_;simp only[gZ];simp(disch:=try exact ac);refine cd (v:=I (J5 l)) (mu (HK (f:=sI) l aa (fun x=>by simp[aw,aJ]) (fun z _=>TN z))) ?_ ?_
 .exact aV rfl
 .simp[aw,aJ,lst,norm]
def shB(l:LiQ)(n i:Nat):Nat×Bk:=(1,.data 1 ((l.take i).map di++List.replicate (n-i) (.int .i64 0)) true false)
theorem VN{r:LiQ}(hi:i<r.length):((r.take i).map di++List.replicate (r.length-i) (D.int .i64 0)).set i (di (nth 0 r i))=(r.take (i+1)).map di++List.replicate (r.length-(i+1)) (.int .i64 0):=by
 have e1:List.replicate (r.length-i) (D.int .i64 0)=.int .i64 0::List.replicate (r.length-(i+1)) (.int .i64 0):=by
  rw[<-List.replicate_succ];congr 1;omega
 have e2:r.take (i+1)=r.take i++[nth 0 r i]:=by rw[List.take_succ_eq_append_getElem hi,cF _ _ _ hi]
 have hl:((r.take i).map di).length=i:=by simp;omega
 rw[e1,e2,Yo _ _ aa,hl,Zd];simp
theorem F8{l:LiQ}(hz:∀z∈l,-1000000000<=z∧z<=1000000000)(hn:l.length<1000000)(h0:Hp)(hh:h0.length=2)(K:KL) :
  ∀(k i:Nat),i+k=l.length->K (.exit 0) [.ref 0 1 0 l.length l.length l.length] [shB l l.length l.length,nnQ] ->
  lp (ji (CX Y) (lst sI l) (I l.length)) [] h0 [.ref 0 1 0 i l.length l.length,I i] [shB l l.length i,nnQ] K
 | 0,i,hk,hK=>by
  refine ak ?_;have hlt:¬((i:Int)<(l.length:Int)):=aa;have:i=l.length:=aa;subst this;simp only[ji];simp(disch:=try exact ac)[hlt];exact hK
 | k+1,i,hk,hK=>by
  refine ak ?_;have hlt:((i:Int)<(l.length:Int)):=aa;have hi:i<l.length:=aa;obtain⟨z1,z2⟩:=hz (nth 0 l i) (eM hi)
  have p1:ixV [shB l l.length i,nnQ] 1 (lst sI l) (I i)=some (.dptr (l.map sI) i):=by
   have:=mK sI l [shB l l.length i,nnQ] (k:=.i64) (i:=(i:Int)) aa aa;simpa using this
  have p2:=fB sI 0 l [shB l l.length i,nnQ] (j:=i) hi;have sm:=zj (z:=nth 0 l i) aa;have c1:¬(1000000000<nth 0 l i):=aa;have c2:¬(nth 0 l i < -1000000000):=aa;simp only[ji];simp(disch:=try exact ac)[hlt,p1,p2];refine cd sm ?_
  have hli:dW 1 [D.int IntKind.i64 0] [(0,I (nth 0 l i))] [shB l l.length i,nnQ]=some ([di (nth 0 l i)],[shB l l.length i,nnQ]):=by
   simp[dW,gD,iW,toD,norm,di]
  simp(disch:=try exact ac)[c1,c2,hli];refine aaB (i:=i) (e:=1) (old:=(l.take i).map di++List.replicate (l.length-i) (.int .i64 0)) (ex:=true) (by simp[shB]) hi aM aM ?_;rw[VN hi];have e1:((i+1:Nat):Int)=(i:Int)+1:=aa;have ih:=F8 hz hn h0 hh K k (i+1) aa hK;rw[e1]at ih
  simp(disch:=try exact ac)[List.set_cons_zero];exact lo (by simpa[shB]using ih)
theorem PY{l:LiQ}(hz:∀z∈l,-1000000000<=z∧z<=1000000000)(hn:l.length<1000000):CP Y F.gE [lst sI l] (.tup [lst di l,I 0]):=by
 refine vr ?_;simp only[gE];have l1:bf (lst sI l)=some (I l.length):=by simp[lst,bf]
 have hn2:(8:Int)*(l.length:Int)<=281474976710656:=aa;simp(disch:=try exact ac)[l1];refine JX (e:=0) (b0:=.none) rfl hn2 aa ?_;simp(disch:=try exact ac)[l1,List.set_cons_zero]
 have lp1:=F8 hz hn [(1,Bk.data 1 (List.replicate l.length (D.int .i64 0)) true false),(0,Bk.none)] rfl (exK [((.exit 0),fun l4 h=>
  out (.tup [lst di l,I 0]) (.tup [(ge l4 0),(.d (.int .i64 0))]) h),
  (.ret,fun l4 h=>
  out (.tup [lst di l,I 0]) (.tup [(ge l4 0),(ge l4 1)]) h)]) l.length 0 aa (by
   simp(disch:=try exact ac);have sb:=Rn (f:=di) (l:=l) (h:=[shB l l.length l.length,nnQ]) (s:=0) (e:=1) (ex:=true) (fr:=false) (by simp[shB]) (n:=l.length) (m:=l.length) (tot:=l.length) rfl (Z7 _) rfl
   have e:aw [shB l l.length l.length,nnQ] [.ref 0 1 0 l.length l.length l.length,I 0]=some ([lst di l,I 0],[shB l l.length l.length,(0,Bk.none)].set 0 (1,Bk.data 1 (List.map di l) true true)):=by
    rw[aw,sb];rfl
   exact⟨_,by rw[aJ,e]⟩)
 exact lo (by simpa[shB]using lp1)
def tlR(k:Nat)(R:RwL):RwL:={R with pre:=R.pre++(R.r.take k).map sI,cap:=R.cap-k,r:=R.r.drop k}
theorem acX(k:Nat)(R:RwL):(tlR k R).k=R.k:=by simp only[tlR,RwL.k];rw[List.append_assoc R.pre,<-List.map_append,X8]
theorem aaQ{h:Hp}{R:RwL}{k:Nat}(hR:h[R.s]?=some R.k)(hk:k<=R.r.length)(hc:R.r.length<=R.cap):slV h 1 R.v (some (I k)) none=some (tlR k R).v:=by simp only[RwL.v,slV,RwL.get hR,boV];rw[if_pos ⟨aa,aa⟩];simp only[];rw[if_pos ⟨R.tl,hc,trivial⟩];simp[tlR,RwL.tot,Yz hk];omega
def fH(k:Nat)(l:List RwL):List RwL:=(l.filter fun R=>Em k R.r).map (tlR k)
theorem Vb(k:Nat)(l:List RwL)(R:RwL):fH k (l++[R])=if Em k R.r=true then fH k l++[tlR k R]else fH k l:=by simp only[fH,List.filter_append,List.map_append];by_cases h:Em k R.r=true<;>simp[h]
theorem ab4(k:Nat)(l:List RwL):(fH k l).map RwL.r=((l.map RwL.r).filter (Em k)).map (List.drop k):=by simp only[fH,List.map_map,List.filter_map];rfl
theorem adN(k:Nat)(r:LiQ):decide (J5 r≥(k:Int))=Em k r:=by
 have:∀f:Option Nat,decide ((match f with
  |some i=>(i:Int)
  |none=>-1)≥(k:Int))=(match f with
  |some i=>decide (k<=i)
  |none=>false):=fun f=>by
  cases f with
  |none=>simp;omega
  |some i=>simp
 exact this _
def ooF(o:Nat×Bk)(l:List RwL):Nat×Bk:=match l.getLast? with
 |none=>o
 |some R=>(o.1+l.length,.vars [R.v])
theorem WC(o:Nat×Bk)(l:List RwL)(R:RwL):ooF o (l++[R])=((ooF o l).1+1,.vars [R.v]):=by
 have:(ooF o l).1=o.1+l.length:=by
  cases h:l.getLast? with
  |none=>simp only[ooF,h];rw[List.getLast?_eq_none_iff]at h;simp[h]
  |some S=>simp only[ooF,h]
 rw[this,ooF,List.getLast?_append];simp[Xw]
def bhH(h:Hp)(s1 s2:Nat)(o:Nat×Bk)(l:List RwL):Hp:=(h.set s1 o).set s2 (loB l)++List.replicate 2 nnQ
variable{gh h:Hp}{so eo L o' k s1 s2:Nat}{m:List RwL}
theorem MH(hs:s<h.length)(h1:s≠s1)(h2:s≠s2):(bhH h s1 s2 o l)[s]?=h[s]?:=by rw[bhH,List.getElem?_append_left (by simpa using hs),List.getElem?_set_ne (Ne.symm h2),List.getElem?_set_ne (Ne.symm h1)]
theorem Va(hs1:s1<h.length)(h12:s1≠s2):(bhH h s1 s2 o l)[s1]?=some o:=by rw[bhH,List.getElem?_append_left (by simpa using hs1),List.getElem?_set_ne (Ne.symm h12),List.getElem?_set_self hs1]
theorem U9(hs2:s2<h.length):(bhH h s1 s2 o l)[s2]?=some (loB l):=by rw[bhH,List.getElem?_append_left (by simpa using hs2),List.getElem?_set_self (by simpa using hs2)]
theorem ZH{o':Nat×Bk}(hs1:s1<h.length)(h12:s1≠s2):(bhH h s1 s2 o l).set s1 o'=bhH h s1 s2 o' l:=by rw[bhH,bhH,List.set_append_left _ _ (by simpa using hs1),Wg _ _ (Ne.symm h12),List.set_set]
theorem ZG(hs2:s2<h.length):(bhH h s1 s2 o l).set s2 (loB l')=bhH h s1 s2 o l':=by rw[bhH,bhH,List.set_append_left _ _ (by simpa using hs2),List.set_set]
theorem MK(T:Tr h.length gh h so eo L m)(ho:o'<=m.length)(hL:L<1000000)(hm:m.length<1000)(hk:k<=L)(hc:∀i,i<m.length->L<=(nR m i).cap)
  (hs1:s1<h.length) (hs2:s2<h.length) (h12:s1≠s2) (h1o:so≠s1) (h2o:so≠s2) (h1r:∀i,i<m.length->(nR m i).s≠s1) (h2r:∀i,i<m.length->(nR m i).s≠s2) (h0:Hp) (o0:Nat×Bk) (K:KL) :
  ∀(r i:Nat)(o:Nat×Bk),i+r=o'->o=ooF o0 (fH k (m.take i))->K (.exit 0) [loV s2 (fH k (m.take o'))] (bhH h s1 s2 (ooF o0 (fH k (m.take o'))) (fH k (m.take o'))) ->
  lp (eZ (CX Y) h.length (I k) (.ref so eo 0 o' m.length m.length) (I o')) [] h0 [loV s2 (fH k (m.take i)),I i] (bhH h s1 s2 o (fH k (m.take i))) K
 | 0,i,o,e,hu,hK=>by
  refine ak ?_;have:i=o':=aa;subst this;have hlt:¬((i:Int)<(i:Int)):=aa;simp only[eZ];simp(disch:=try exact ac)[hlt];rw[hu];exact hK
 | r+1,i,o,e,hu,hK=>by
  refine ak ?_;have hlt:((i:Int)<(o':Int)):=aa;have him:i<m.length:=aa;obtain⟨H,hH⟩:=nmQ (bhH h s1 s2 o (fH k (m.take i)));have gO:H[so]?=some (eo,.vars (m.map RwL.v)):=by rw[hH,MH T.so h1o h2o];exact T.o
  have gR:H[(nR m i).s]?=some (nR m i).k:=by rw[hH,MH (T.sb i him) (h1r i him) (h2r i him)];exact T.r i him
  have gO':aC H so eo=.vars (m.map RwL.v):=by simp[aC,gO]
  have i1:ixV H 1 (.ref so eo 0 o' m.length m.length) (I i)=some (ouP so eo m.length i):=by
   simp only[ixV,gO'];rw[if_pos ⟨af,aa,aa⟩];simp[ouP]
  have i2:ld1 H (ouP so eo m.length i)=some (nR m i).v:=by
   simp only[ouP,ld1,gO'];rw[if_pos af,NT _ RwL.z _ _ him]
  have hrl:(nR m i).r.length=L:=T.ln i him;obtain⟨hx,sn,_,_⟩:=QY (h:=H) (R:=nR m i) (by rw[hrl];exact hc i him) (RwL.ok gR)
  have sn2:aw H [(nR m i).v]=some ([lst sI (nR m i).r],hx):=by
   have:aJ H (nR m i).v=some (.d (um (nR m i).r),hx):=by
    rw[show(nR m i).v=.ref (nR m i).s (nR m i).e (nR m i).pre.length (nR m i).r.length (nR m i).cap (nR m i).tot from rfl]at sn ⊢;simp only[aJ,sn]
   simp only[aw,this];rfl
  have tk:m.take (i+1)=m.take i++[nR m i]:=by rw[List.take_succ_eq_append_getElem him,nR,cF _ _ _ him]
  rw[<-hH];simp only[eZ];simp(disch:=try exact ac)[hlt]
  have main:∀o1,o1=ooF o0 (fH k (m.take (i+1)))->lp (eZ (CX Y) h.length (I k) (.ref so eo 0 o' m.length m.length) (I o')) [] h0 [loV s2 (fH k (m.take (i+1))),I ((i:Int)+1)] (bhH h s1 s2 o1 (fH k (m.take (i+1)))) K:=fun o1 hu1=>by
   have:=MK T ho hL hm hk hc hs1 hs2 h12 h1o h2o h1r h2r h0 o0 K r (i+1) o1 aa hu1 hK;have e2:((i+1:Nat):Int)=(i:Int)+1:=aa
   rwa [e2]at this
  refine aj ?_;simp(disch:=try exact ac)[i1,i2];refine vG sn2 (Tu (nR m i).r aa) ?_;rw[show(if f9 (I (J5 (nR m i).r))=true then H else hx)=H from rfl]
  have hge:biI .geq (I (J5 (nR m i).r)) (I k)=some (B (Em k (nR m i).r)):=by
   rw[<-adN];rfl
  simp(disch:=try exact ac)[hge];rw[tk,Vb]at main;by_cases hb:Em k (nR m i).r=true
  .rw[if_pos hb]at main;have sl:=aaQ (k:=k) gR (by rw[hrl];exact hk) (by rw[hrl];exact hc i him);refine aj ?_;simp(disch:=try exact ac)[hb,sl];refine yM s1 ?_;simp(disch:=try exact ac);refine Mb (e:=o.1) (b:=o.2) (by rw[hH];exact Va hs1 h12) (v:=(tlR k (nR m i)).v) rfl ?_;rw[hH,ZH hs1 h12]
   simp(disch:=try exact ac);refine yM s2 ?_;simp(disch:=try exact ac)
   have hv:rj (bhH h s1 s2 (o.1+1,.vars [(tlR k (nR m i)).v]) (fH k (m.take i))) (.ref s1 (o.1+1) 0 1 1 1)=some (1,[(tlR k (nR m i)).v]):=by
    simp[rj,aC,Va hs1 h12]
   refine HC (l:=fH k (m.take i)) (R:=tlR k (nR m i)) ?_ hv (U9 hs2) ?_
   .have:(fH k (m.take i)).length<=(m.take i).length:=by simp only[fH,List.length_map];exact List.length_filter_le _ _
    rw[Zr]at this;omega
   rw[ZG hs2];have hu2:((o.1+1,Bk.vars [(tlR k (nR m i)).v]):Nat×Bk)=ooF o0 (fH k (m.take i)++[tlR k (nR m i)]):=by rw[WC,hu]
   simp(disch:=try exact ac);rw[fK];exact lo (main _ hu2)
  .rw[if_neg hb]at main;have hb':Em k (nR m i).r=false:=by simpa using hb
   refine aj ?_;simp(disch:=try exact ac)[hb'];rw[fK,hH];exact lo (main _ hu)
theorem adh{m:List RwL}(h:∀i j,i<m.length->j<m.length->i≠j->(nR m i).s≠(nR m j).s):m.Pairwise fun a b=>a.s≠b.s:=by
 rw[List.pairwise_iff_getElem];intro i j hi hj hij;have:=h i j hi hj aa
 rwa [nR,nR,cF _ _ _ hi,cF _ _ _ hj]at this
theorem adi{m:List RwL}(h:m.Pairwise fun a b=>a.s≠b.s):∀i j,i<m.length->j<m.length->i≠j->(nR m i).s≠(nR m j).s:=by
 rw[List.pairwise_iff_getElem]at h;intro i j hi hj hij;rw[nR,nR,cF _ _ _ hi,cF _ _ _ hj];rcases Nat.lt_or_gt_of_ne hij with hlt|hlt
 .exact h i j hi hj hlt
 .exact Ne.symm (h j i hj hi hlt)
theorem zC{m:List RwL}(hi:i<m.length):nR m i∈m:=by rw[nR,cF _ _ _ hi];exact Yu hi
theorem Hu{m:List RwL}{R:RwL}(hR:R∈m):∃i,i<m.length∧R=nR m i:=by obtain⟨i,hi,rfl⟩:=W6 hR;exact⟨i,hi,by rw[nR,cF _ _ _ hi]⟩
theorem ab2(T:Tr h.length gh h so eo L m)(hk:k<=L)(hs1:s1<h.length)(hs2:s2<h.length)(h12:s1≠s2)(h1r:∀i,i<m.length->(nR m i).s≠s1)(h2r:∀i,i<m.length->(nR m i).s≠s2)
  {o:Nat×Bk} (hu:aA h.length o.2=true) (ho:o'<=m.length) (h0:fH k (m.take o')≠[]) :
  Tr h.length (bhH h s1 s2 o (fH k (m.take o'))) (bhH h s1 s2 o (fH k (m.take o'))) s2 (fH k (m.take o')).length (L-k) (fH k (m.take o')):=by
 have mem:∀R∈fH k (m.take o'),∃i,i<m.length∧R=tlR k (nR m i):=fun R hR=>by
  simp only[fH,Zf,List.mem_filter]at hR;obtain⟨S,⟨hS,_⟩,rfl⟩:=hR;obtain⟨i,hi,rfl⟩:=Hu (Ws hS);exact⟨i,hi,rfl⟩
 have hl:(bhH h s1 s2 o (fH k (m.take o'))).length=h.length+2:=by simp[bhH]
 refine⟨?_,fun i hi=>?_,?_,fun i hi=>?_,fun i hi=>?_,fun _ _ _=>rfl,hs2,fun i hi=>?_,?_,aa,fun s hs hs'=>?_⟩
 .rw[U9 hs2,loB,if_neg h0]
 .obtain⟨j,hj,e⟩:=mem _ (zC hi);rw[show nth RwL.z (fH k (m.take o')) i=nR (fH k (m.take o')) i from rfl,e,acX];have:=T.r j hj;rw[show(tlR k (nR m j)).s=(nR m j).s from rfl,MH (T.sb j hj) (h1r j hj) (h2r j hj)];exact this
 .refine adi ?_;simp only[fH,List.pairwise_map];exact((adh T.nd).sublist (List.take_sublist _ _)).filter _
 .obtain⟨j,hj,e⟩:=mem _ (zC hi);rw[show nth RwL.z (fH k (m.take o')) i=nR (fH k (m.take o')) i from rfl,e];exact h2r j hj
 .obtain⟨j,hj,e⟩:=mem _ (zC hi);rw[show nth RwL.z (fH k (m.take o')) i=nR (fH k (m.take o')) i from rfl,e];have:=T.ln j hj;simp only[tlR,Yt];rw[show(nR m j).r.length=L from this]
 .obtain⟨j,hj,e⟩:=mem _ (zC hi);rw[show nth RwL.z (fH k (m.take o')) i=nR (fH k (m.take o')) i from rfl,e];exact T.sb j hj
 .rw[bhH,Y3];refine Bool.and_eq_true_iff.2 ⟨wm (wm T.u hu) (N4 fun R hR=>?_),Dg⟩;obtain⟨j,hj,rfl⟩:=mem R hR;exact T.sb j hj
 .rw[bhH,List.getElem?_append_right (by simpa using hs),List.getElem?_replicate,if_pos (by rw[hl]at hs';simp;omega)]
theorem adp{b:Nat}(ho:aA b o.2=true)(hl:∀R∈l,R.s<b):aA b (ooF o l).2=true:=by
 cases h:l.getLast? with
 |none=>simpa[ooF,h]using ho
 | some R=>
  simp only[ooF,h];exact sY [R] fun S hS=>by simp at hS;rw[hS];exact hl R (List.mem_of_getLast? h)
theorem vO{h:Hp}(hx:h[i]?=some x):h.set i x=h:=by obtain⟨hi,e⟩:=List.getElem?_eq_some_iff.1 hx;rw[<-e];exact List.set_getElem_self hi
theorem QB(T:Tr h.length gh h so eo L m)(ho:o'<=m.length)(hL:L<1000000)(hm:m.length<1000)(hk:k<=L)(hc:∀i,i<m.length->L<=(nR m i).cap)
  {one:Nat×Bk} (g1:h[s1]?=some one) (hu:aA h.length one.2=true) (g2:h[s2]?=some nnQ) (h12:s1≠s2) (h1o:so≠s1) (h1r:∀i,i<m.length->(nR m i).s≠s1)
  {n f Bd o2:Nat} {z:Mz} (hB:Bd<=100000) (hn:n<=L-k) (h0:fH k (m.take o')≠[]) (hz:DY Bd f n ((fH k (m.take o')).map RwL.r)=some (o2,z)) :
  ∃(h2:Hp)(m2:List RwL),CI Y F.cj [.ref so eo 0 o' m.length m.length,I k,I n] h (.ref s2 (fH k (m.take o')).length 0 o2 (fH k (m.take o')).length (fH k (m.take o')).length) h2∧h2[s2]?=some ((fH k (m.take o')).length,.vars (m2.map RwL.v)) ∧
   (∀R∈m2,LX h2 R∧R.r.length<=R.cap)∧m2.map RwL.r=z∧m2.length=(fH k (m.take o')).length∧o2<=(fH k (m.take o')).length:=by
 have hs1:s1<h.length:=(List.getElem?_eq_some_iff.1 g1).1;have hs2:s2<h.length:=(List.getElem?_eq_some_iff.1 g2).1;have h2o:so≠s2:=fun e=>by have:=T.o;rw[e,g2]at this;cases this
 have h2r:∀i,i<m.length->(nR m i).s≠s2:=fun i hi e=>by have:=T.r i hi;rw[show nth RwL.z m i=nR m i from rfl,e,g2]at this;simp[RwL.k]at this
 obtain⟨l,hl⟩:=nmQ (fH k (m.take o'))
 have hlm:∀R∈l,R.s<h.length∧L-k<=R.cap:=fun R hR=>by
  simp only[hl,fH,Zf,List.mem_filter]at hR;obtain⟨S,⟨hS,_⟩,rfl⟩:=hR;obtain⟨i,hi,rfl⟩:=Hu (Ws hS);have:=hc i hi;exact⟨T.sb i hi,by simp only[tlR];omega⟩
 have hll:l.length<1000:=by
  have:(fH k (m.take o')).length<=(m.take o').length:=by simp only[fH,List.length_map];exact List.length_filter_le _ _
  rw[Zr]at this;rw[hl];omega
 obtain⟨oF,hoF⟩:=nmQ (ooF one l);have huF:aA h.length oF.2=true:=by rw[hoF];exact adp hu fun R hR=>(hlm R hR).1
 have T0:=ab2 (o':=o') T hk hs1 hs2 h12 h1r h2r huF ho h0;rw[<-hl]at T0 h0 hz ⊢;obtain⟨m2,f1,f2⟩:=Om hz;obtain⟨⟨⟨h',T',e'⟩,hc'⟩,q1,q2⟩:=Kq (Q:=fun R=>L-k<=R.cap) (fun _ _ h=>h) T0 (fun i hi=>(hlm _ (zC hi)).2) f1;have hlen:(bhH h s1 s2 oF l).length=h.length+2:=by simp[bhH]
 have fo:=J3 hB aa aa hn (T0.up (c:=(bhH h s1 s2 oF l).length) aa (Z7 _)) f1 (T'.up (c:=(bhH h s1 s2 oF l).length) aa aa) e';refine⟨h'.take h.length,m2,?_,?_,fun R hR=>?_,f2,q2,q1⟩
 .refine oB ?_;simp only[cj]
  have st:h++List.replicate 2 (0,Bk.none)=bhH h s1 s2 one (fH k (m.take 0)):=by
   simp only[bhH,List.take_zero,fH,List.filter_nil,X7];rw[vO g1,show loB []=(0,Bk.none)from rfl,vO g2]
  have l1:bf (.ref so eo 0 o' m.length m.length)=some (I o'):=rfl;rw[st];simp(disch:=try exact ac)[l1];refine lo (MK T ho hL hm hk hc hs1 hs2 h12 h1o h2o h1r h2r _ one _ o' 0 one aa (by simp[fH,ooF]) ?_);rw[<-hl,<-hoF];simp(disch:=try exact ac);rw[loV,if_neg h0];refine io fo ?_ (by intro _ _ _ _ _ e;cases e)
  refine⟨rfl,Z2.2 fun x hx=>Z2.1 T'.u x (Ws hx),.inl ⟨rfl,?_⟩⟩;simpa[under,W0]using hs2
 .rw[List.getElem?_take,if_pos hs2];exact T'.o
 .obtain⟨i,hi,rfl⟩:=Hu hR;refine⟨⟨false,?_⟩,by rw[show(nR m2 i).r.length=L-k from T'.ln i hi];exact hc' i hi⟩;rw[List.getElem?_take,if_pos (show(nR m2 i).s<h.length from T'.sb i hi)];exact T'.r i hi
abbrev nlV:V:=.d nPQ
theorem P1{h:Hp}{n:Nat}(hu:(h.all fun x=>aA h.length x.2)=true):CI Y F.cw [nlV,I n] h nlV h:=by
 refine pJ ?_;simp only[cw];simp(disch:=try exact ac);refine lo (ak ?_);simp only[gm];have l1:bf nlV=some (I 0):=rfl;have s1:slV (h++[(0,Bk.none),(0,Bk.none),(0,Bk.none)]) 1 nlV none (some (I 0))=some nlV:=rfl;have fin:nB h.length nlV h nlV (h++[(0,Bk.none),(0,Bk.none),(0,Bk.none)]):=⟨af,hu,.inl ⟨rfl,rfl⟩⟩
 by_cases h0:(0:Int)<(n:Int)
 .simp(disch:=try exact ac)[h0,l1,s1];exact fin
 .simp(disch:=try exact ac)[h0,l1,s1];exact fin
theorem MJ(T:Tr h.length gh h so eo L m)(ho:o'<=m.length)(hL:L<1000000)(hm:m.length<1000)(hk:k<=L)(hc:∀i,i<m.length->L<=(nR m i).cap)
  {one:Nat×Bk} (g1:h[s1]?=some one) (g2:h[s2]?=some nnQ) (h12:s1≠s2) (h1o:so≠s1) (h1r:∀i,i<m.length->(nR m i).s≠s1)
  {n:Nat} (h0:fH k (m.take o')=[]):CI Y F.cj [.ref so eo 0 o' m.length m.length,I k,I n] h nlV h:=by
 have hs1:s1<h.length:=(List.getElem?_eq_some_iff.1 g1).1;have hs2:s2<h.length:=(List.getElem?_eq_some_iff.1 g2).1;have h2o:so≠s2:=fun e=>by have:=T.o;rw[e,g2]at this;cases this
 have h2r:∀i,i<m.length->(nR m i).s≠s2:=fun i hi e=>by have:=T.r i hi;rw[show nth RwL.z m i=nR m i from rfl,e,g2]at this;simp[RwL.k]at this
 refine oB ?_;simp only[cj]
 have st0:h++List.replicate 2 (0,Bk.none)=bhH h s1 s2 one []:=by
  simp only[bhH];rw[vO g1,show loB []=(0,Bk.none)from rfl,vO g2]
 have st:h++List.replicate 2 (0,Bk.none)=bhH h s1 s2 one (fH k (m.take 0)):=by
  rw[st0];rfl
 have l1:bf (.ref so eo 0 o' m.length m.length)=some (I o'):=rfl;rw[st];simp(disch:=try exact ac)[l1];refine lo (MK T ho hL hm hk hc hs1 hs2 h12 h1o h2o h1r h2r _ one _ o' 0 one aa (by simp[fH,ooF]) ?_);rw[h0,show ooF one []=one from rfl,<-st0];simp(disch:=try exact ac)
 have hu:((h++List.replicate 2 (0,Bk.none)).all fun x=>aA (h++List.replicate 2 (0,Bk.none)).length x.2)=true:=by
  refine vL (b:=h.length) af ?_;rw[Y3,T.u,Dg];rfl
 refine io (P1 hu) ?_ (by intro _ _ _ _ _ e;cases e);exact⟨af,T.u,.inl ⟨rfl,rfl⟩⟩
theorem zP{m z:Mz}{n Bd:Nat}(h0:0<n)(hn:n<=14)(hc:∀r∈m,r.length=n)(hm:m.length<1000)(hB:Bd<=100000)(hz:Mj Bd f n m=some z):CP Y F.cT [sy m,I n] (sy z):=by
 refine tD ?_;simp only[cT];simp only[Mj]at hz;cases hw:DY Bd f (m.length+n) (QP n m)with
 |none=>rw[hw]at hz;cases hz
 |some q=>
 obtain⟨o1,w⟩:=q;rw[hw]at hz;simp only at hz;refine TX hn hc hm (List.replicate 18 nnQ) _ n 0 nnQ aa rfl rfl rfl fun o hu ho=>?_
 obtain⟨l,hl⟩:=nmQ (iq n m n);have hln:l.length=n:=by rw[hl];simp
 have hl0:l≠[]:=fun e=>by rw[e]at hln;simp at hln;omega
 have hlr:l.map RwL.r=QP n m:=by rw[hl,iq,aah];rfl
 have hnth:∀i,i<l.length->nth RwL.z l i=⟨i+5,1,[],[],false,m.length+n,yS n m i⟩:=fun i hi=>by
  have h1:nth [] ((List.range n).map (yS n m)) i=yS n m i:=by simp[nth,hln▸hi]
  rw[hl,iq,N8 false 5 _ i aM,h1,Cc]
 obtain⟨H,hH⟩:=nmQ (kH l o);have hHl:H.length=19:=by rw[hH,kH];simp;omega
 have T:Tr H.length H H 3 l.length (m.length+n) l:=by
  refine⟨?_,fun i hi=>?_,fun i j hi hj hij=>?_,fun i hi=>?_,fun i hi=>?_,fun _ _ _=>rfl,aa,fun i hi=>?_,?_,Z7 _,fun s h1 h2=>by omega⟩
  .rw[hH];simp[kH,loB,hl0]
  .have h5:=HF false ((List.range n).map (yS n m)) 5 [nnQ,nnQ,nnQ,loB l,o] (List.replicate (14-l.length) nnQ) rfl (nR l i) (by rw[<-iq,<-hl];exact zC hi);rw[<-iq,<-hl]at h5;rw[hH];exact h5
  .rw[hnth i hi,hnth j hj];simp;omega
  .rw[hnth i hi];simp
  .rw[hnth i hi];exact Cc n m i
  .rw[hnth i hi];simp only;omega
  .rw[hHl,hH,kH];simp only[List.all_cons,Y3,LH,Dg,hu,Yg]
   exact N4 fun R hR=>by
    obtain⟨i,hi,rfl⟩:=Hu hR;rw[nR,hnth i hi];simp only;omega
 obtain⟨m1,f1,f2⟩:=Om (hlr▸hw);obtain⟨⟨⟨h1,T1,e1⟩,hQ⟩,q1,q2⟩:=Kq (Q:=fun R=>m.length+n<=R.cap∧5<=R.s) (fun _ _ h=>h) T (fun i hi=>by rw[nR,hnth i hi];simp) f1;have fo:=J3 hB aa aa (Z7 _) T f1 T1 e1;have l1:bf (sy m)=some (I m.length):=rfl;have e2:(m.length:Int)+(n:Int)=((m.length+n:Nat):Int):=aa;rw[<-hl,<-hH,loV,if_neg hl0]
 simp(disch:=try exact ac)[l1];rw[e2];refine io fo ?_ (by intro _ _ _ _ _ e;cases e);simp(disch:=try exact ac)[l1];rw[<-e1]at T1
 have g4:h1[4]?=some o:=by
  rw[T1.fr 4 aa (fun i hi=>by have:=(hQ i hi).2;rw[nR]at this;omega),hH];rfl
 have g1:h1[1]?=some nnQ:=by
  rw[T1.fr 1 aa (fun i hi=>by have:=(hQ i hi).2;rw[nR]at this;omega),hH];rfl
 have hr4:∀i,i<m1.length->(nR m1 i).s≠4:=fun i hi=>by have:=(hQ i hi).2;omega
 have hbr:(fH m.length (m1.take o1)).map RwL.r=((w.take o1).filter (Em m.length)).map (List.drop m.length):=by rw[ab4,List.map_take,f2]
 have hou:aA h1.length o.2=true:=by rw[e1,hHl];exact hu
 rw[<-q2]at T1 ⊢;by_cases hb:fH m.length (m1.take o1)=[]
 ·have hz0:z=[]:=by
   rw[hb]at hbr;simp only[ab3,<-hbr,X7,if_true]at hz;exact(Option.some.inj hz).symm
  refine io (MJ T1 aa aa aa aa (fun i hi=>(hQ i hi).1) g4 g1 aa aa hr4 (n:=n) hb) ?_ (by intro _ _ _ _ _ e;cases e);rw[hz0];exact⟨_,rfl⟩
 ·have hz1:∃o2 w2,DY Bd f n ((fH m.length (m1.take o1)).map RwL.r)=some (o2,w2)∧z=w2.take o2:=by
   have hne:((w.take o1).filter (Em m.length)).map (List.drop m.length)≠[]:=fun e=>hb (by rw[e]at hbr;exact List.map_eq_nil_iff.1 hbr)
   simp only[ab3,if_neg hne]at hz;rw[hbr];split at hz
   .rename_i o2 w2 e;exact⟨o2,w2,e,(Option.some.inj hz).symm⟩
   .cases hz
  obtain⟨o2,w2,hf2,rfl⟩:=hz1;obtain⟨h2,m2,c1,c2,c3,c4,c5,c6⟩:=QB (s1:=4) (s2:=1) T1 aa aa aa aa (fun i hi=>(hQ i hi).1) g4 hou g1 aa aa hr4 hB aa hb hf2;refine io c1 ?_ (by intro _ _ _ _ _ e;cases e);rw[<-c5]at c2 c6 ⊢
  obtain⟨h3,e3⟩:=FO (o:=o2) c2 (fun R hR=>(c3 R hR).1) (fun R hR=>(c3 R hR).2) (fun e=>by rw[e]at c5;exact hb (Zp c5.symm)) c6;rw[c4]at e3;exact⟨h3,e3⟩
@[simp] theorem acD (f:α->D)(l:List α)(place:Nat->Option (Nat×Nat))(cs:LwQ)(r:List (Nat×V))(off sz:Nat):
  Gp (some (off,sz)) place cs (lst f l) r=if 1=sz∧off+1<=cs.length then re place (cs.take off++[lst f l]++cs.drop (off+1)) r else none:=id rfl
theorem ZR(s:LuQ):CP Y F.gn [S s] (S (rdT s)):=by refine Av ?_;simp[gn];refine cd (qy s) ?_;simp<;>exact eX rfl
theorem FK(a b:LuQ)(ha:a.length<1000000000)(hb:b.length<1000000000):CP Y F.mE [.agg [S a,S b]] (B (uZ a&&decide (b.length<=30))):=by
 refine GX ?_;simp[mE];refine cd (ZR a) ?_;have hl:(rdT a).length<=a.length:=by unfold rdT;split<;>simp
 by_cases h1:(rdT a).length<=30
 .have h1':((rdT a).length:Int)<=30:=aa;by_cases h2:b.length<=30
  .have h2':(b.length:Int)<=30:=aa;simp[h1',h2']<;>exact dX (by grind[uZ])
  .have h2':¬(b.length:Int)<=30:=aa;simp[h1',h2']<;>exact dX (by grind)
 .have h1':¬((rdT a).length:Int)<=30:=aa;simp[h1']<;>exact dX (by simp[uZ,h1])
def sz4(x:Tx):Bool:=uZ x.1&&decide (x.2.length<=30)
def Cq:List Tx->Int
 |[]=>0
 |x::q=>cond (rdF x.1 x.2).isSome (cond (sz4 x) (Cq q) 4) 2
theorem Cy{s:List Tx}(hN:s.length<1000000000)(hl:∀x∈s,x.1.length<1000000000∧x.2.length<1000000000)(k:KL):∀(q a:List Tx),a++q=s->(Cq q=0->k (.exit 0) [] [nnQ])->(Cq q≠0->∀h,k .ret [I (Cq q)] h) ->
  lp (pB (CX Y) (sv bg s) (I s.length)) [0] [nnQ] [I a.length] [nnQ] k
 | []=>by
  intro a ha h0 h1;simp at ha;subst ha;refine ak ?_;simp[pB];exact h0 rfl
 | x::q=>by
  intro a ha h0 h1;have hal:a.length<s.length:=by subst ha;simp
  have hx:nth ([],[]) s a.length=x:=by subst ha;simp
  have hxl:=hl x (by grind);have e1:=fun h:Hp=>qZ bg bG s h (k:=.i64) (i:=(a.length:Int)) aa aa
  have e2:=fun h:Hp=>qX bg bG ([],[]) s h hal
  simp only[hx,Int.toNat_natCast]at e1 e2;have ih:=Cy hN hl k q (a++[x]) (by grind);refine ak ?_;simp(disch:=try exact ac)[pB,e1,e2,bg];refine cd (Gz x.1 x.2 hxl.1 hxl.2) ?_;cases g3:(rdF x.1 x.2).isSome with
  | false=>
   simp only[Cq,g3,cond_false]at h1;simp[g3]
   grind
  | true=>
   simp[g3];refine cd (FK x.1 x.2 hxl.1 hxl.2) ?_;cases g1:sz4 x with
   | false=>
    simp only[Cq,g3,g1,cond_true,cond_false]at h1;rw[show(uZ x.1&&decide (x.2.length<=30))=false from g1];simp
    grind
   | true=>
    simp only[Cq,g3,g1,cond_true]at h0 h1;have:=ih h0 h1;rw[show(uZ x.1&&decide (x.2.length<=30))=true from g1];simp(disch:=try exact ac)[clean,gW,oA,oU,gG,aL]
    simp_all
def scB(n:Nat)(s:List Tx):Int:=if s.length=n then Cq s else 5
theorem I6{p:LiQ}{s:List Tx}(hl:∀x∈s,x.1.length<1000000000∧x.2.length<1000000000)(hs:s.length<1000000000):CP Y F.kX [lst di p,sv bg s] (I (scB p.length s)):=by
 have lp':bf (lst di p)=some (I p.length):=rfl;have ls':bf (sv bg s)=some (I s.length):=rfl;refine GY ?_;by_cases h1:s.length=p.length
 .have h1':((s.length:Int)=(p.length:Int))=True:=eq_true aa;have e:scB p.length s=Cq s:=if_pos h1;rw[e];simp[kX,lp',ls',h1'];refine lo (Cy hs hl _ s [] rfl (fun g=>?_) (fun g h=>?_))
  .simp_all
  simp
 .have h1':¬((s.length:Int)=(p.length:Int)):=aa;have e:scB p.length s=5:=if_neg h1;rw[e];simp[kX,lp',ls',h1']<;>exact aV rfl
def siB(p:LiQ)(s:List Tx):Int:=if pcB p=0 then scB p.length s else pcB p
theorem Rx{p:LiQ}{s:List Tx}(hp:p.length<1000000000)(hl:∀x∈s,x.1.length<1000000000∧x.2.length<1000000000)(hs:s.length<1000000000):CP Y F.jO [lst di p,sv bg s] (I (siB p s)):=by
 refine G0 ?_;simp[jO];refine cd (lJ hp) ?_;by_cases h:pcB p=0
 .have e:siB p s=scB p.length s:=if_pos h;rw[e];simp[h];refine cd (I6 hl hs) ?_;simp<;>exact aV rfl
 .have e:siB p s=pcB p:=if_neg h;rw[e];simp[h]<;>exact aV rfl
end Go.Vm
