/- Lemmas. -/
import Derived.Test.YthjogmhfdpaaaabGreatDoorQFa
set_option linter.unusedVariables false
set_option linter.unusedSimpArgs false
open Option renaming some->Wf,none->Vc
open Bool renaming true->Th,false->SM
open Go renaming IntKind->iK,BinOp->bO
open List renaming replicate->So,length->RW
namespace Go.Vm
open Go Go.Am Go.Big
variable{z:Int}{m m':Mz}{i n o o' j E E' M:Nat}{s:List Q}{f:Tg->List Q}{t:Tg}{α:Type}{L L':Nat->Nat}
theorem MG{k:bq->Hp->Prop}{T:(bq->Hp->Prop)->Prop}{u:PU k}{w:PU T}(P:bq->Hp->Prop)(hP:∀l h,P l h->k l h)(hT:∀q:bq->Hp->Prop,(∀l h,P l h->q l h)->T q):jo k T u w:=hT k hP
variable{p:aw}{c w:Mz}
theorem ahf{a:Q}(h:gC a):gC (jp a):=⟨h.1,by simp[jp,X0];exact h.2⟩
theorem ahg{a:Q}{K:Nat}(h:qL K a):qL K (jp a):=⟨by simp[jp,X0];exact h.1,h.2⟩
theorem al5{a:Q}(la:qL 100000 a):Ds F.BL [.agg (qT a)] (.agg (qT (jp a))):=by apply alQ;have n1:=Do (z:=a.1) (by have:=la.1;omega);simp only[BL,qT,jp];simp;refine cd n1 ?_;simp;simp[nD]
theorem al3{a b:Q}(ha:gC a)(hb:gC b)(la:qL 50000 a)(lb:qL 50000 b):Ds F.BJ [.agg (qT a),.agg (qT b)] (.agg (qT (d9 a (jp b)))):=by
 apply alM;have n1:=al5 (a:=b) (lb.mono aa);have n2:=M8 ha (ahf hb) (la.mono aa) ((ahg lb).mono aa);have⟨x,y,hxy⟩:∃x y,qT (d9 a (jp b))=[S x,S y]:=⟨_,_,rfl⟩;have⟨x2,y2,hxy2⟩:∃x y,qT (jp b)=[S x,S y]:=⟨_,_,rfl⟩;rw[hxy,hxy2]at n2;rw[hxy2]at n1;rw[hxy];simp[qT]at n1 n2 ⊢;simp only[BJ];simp
 refine cd n1 ?_ aM;simp;refine cd n2 ?_ aM;simp;simp[nD]
def fP(s:List Q):bF:=(s.map tx).flatMap bb
theorem C9(s:List Q):RW (fP s)=RW s*2:=by rw[fP,jB bb dZ,List.length_map]
theorem ahx(s:List Q)(k:Q):fP (s++[k])=fP s++bb (tx k):=by simp[fP]
theorem Dj(h : -1000000000<=z∧z<=1000000000):gC (z,1)∧qL 30 (z,1):=ail z aa aa
theorem amy(h : -1000000000<=z∧z<=1000000000):Ds F.sY [I z,I 1] (.tup [.agg (qT (z,1)),I 0]):=by
 have:=M7 (n:=z) (d:=1) am aa aa am am
 grind[Ut]
def yj:Acc:=⟨1,0,2,.none⟩
theorem aij(a:aw)(z:Int):fB (a++[z])=fB a++[(z,1)]:=by simp[fB]
theorem wh(a:aw):RW (fB a)=RW a:=by simp[fB]
theorem TF{r:aw}(hr:lG r)(hn:RW r<1000)(x0 y0:Bk)(K:KL):∀(q a:aw),r=a++q->K (.exit 0) [yj.v (RW r) (fP (fB r))] [ah,yj.b (RW r) (fP (fB r))] ->
  lp (EV DA (aj di r) (I (RW r))) [0] [(0,x0),(0,y0)] [yj.v (RW a) (fP (fB a)),I (RW a)] [ah,yj.b (RW a) (fP (fB a))] K
 | [],a,e,hK=>by
  simp[Zo]at e;subst e;apply aL;have PJ:¬((RW r:Int)<(RW r:Int)):=aa
  simp_all[EV]
 | z::q,a,e,hK=>by
  apply aL;have PJ:((RW a:Int)<(RW r:Int)):=by rw[e];simp;omega
  have DQ:RW a<RW r:=aa;have hz:=hr z ae;have i1:∀h:Hp,bC h 1 (aj di r) (I (RW a))=Wf (.dptr (r.map di) (RW a)):=λh=>by simp_all
  have i2:∀h:Hp,ld1 h (.dptr (r.map di) (RW a))=Wf (I z):=λh=>by
   simp_all
  have lq:∀H,cI 1 [D.str [],D.str []] [(0,.agg (qT (z,1)))] H=Wf (bb (tx (z,1)),H):=λH=>Dw _ H
  have ih:=TF hr hn x0 y0 K q (a++[z]) ae hK;have ee:fP (fB (a++[z]))=fP (fB a)++bb (tx (z,1)):=by rw[aij,ahx]
  rw[List.length_append,List.length_singleton,ee]at ih;have e4:((RW a+1:Nat):Int)=(RW a:Int)+1:=aa;rw[e4]at ih;simp[qT]at lq;simp only[EV];simp[PJ,i1,i2];refine cd (amy hz) ?_;simp only[qT];simp[lq];refine kM yj (Nd:=32) (k:=1) (cs:=bb (tx (z,1))) aa rfl (by rw[C9,wh];rfl) rfl rfl ae aa am ?_
  simp(disch:=omega) [];rw[<-List.length_append];trivial
theorem TG{r:aw}(hr:lG r)(hn:RW r<1000):Ds F.xn [aj di r] (aX (fB r)):=by
 apply ac9;have l1:bh (aj di r)=Wf (I (RW r)):=rfl;simp only[xn];simp[l1];refine lo (TF hr hn _ _ _ r [] rfl ?_);simp;have ll:RW ((fB r).map tx)=RW r:=by simp[fB]
 have:=OU yj (L:=RW r) (cells:=fP (fB r)) (h:=[ah,yj.b (RW r) (fP (fB r))]) rfl (by rw[C9,wh];rfl)
 grind[aX,de,fP]
theorem Sw(a b:Nat):RW ((So a zT++So b gH).flatMap bb)=(a+b)*2:=by rw[jB bb dZ];simp
theorem alY(t:Tx){m:Nat}(h:m<=i):((So i t).flatMap bb).take (m*2)=(So m t).flatMap bb:=by obtain⟨d,rfl⟩:=Nat.exists_eq_add_of_le h;rw[<-List.replicate_append_replicate,Yx,List.take_append_of_le_length (by simp[dZ]),Zx (by simp[dZ])]
theorem alZ(t:Tx){m:Nat}(h:m<=i):((So i t).flatMap bb).drop (m*2)=(So (i-m) t).flatMap bb:=by obtain⟨d,rfl⟩:=Nat.exists_eq_add_of_le h;rw[<-List.replicate_append_replicate,Yx,List.drop_append_of_le_length (by simp[dZ]),List.drop_of_length_le (by simp[dZ]),List.nil_append,Nat.add_sub_cancel_left]
theorem BN(t:Tx)(i:Nat):RW ((So i t).flatMap bb)=i*2:=by rw[jB bb dZ,Y8]
@[simp ↓] theorem ar4 (h:Hp)(n:Nat)(x y:V)(k:bG):tf h n x y k=rh (tf h n x y) k .mk:=id rfl
theorem aah{h:Hp}{n i r j m cap:Nat}(hi:i+r=n)(hm:min j r=m)(m0:0<m){y:V}(hy:cellsOf (hz h (So i zT++So r gH)) y=Wf (j,(So j zT).flatMap bb)){k:bG}{u:PU k}
  (hk:k (I m) (hz h (So (i+m) zT++So (r-m) gH))):rh (tf (hz h (So i zT++So r gH)) 2 (.ref (RW h) 1 (i*2) r cap (n*2)) y) k u:=by
 show tf _ 2 _ y k
 have hl:RW ((So i zT++So r gH).flatMap bb)=n*2:=by rw[Sw,hi]
 have mj:m<=j:=aa;have mr:m<=r:=aa;unfold tf;simp only[ij (DU h _),hy,hm];rw[ip ⟨⟨m0,cU,aa,cU⟩,hl.symm,BN _ _,aa⟩];have a1:=BN zT i
 have p1:List.take (i*2) ((So i zT++So r gH).flatMap bb)=(So i zT).flatMap bb:=by
  rw[Yx,List.take_append_of_le_length aa,Zx aa]
 have p2:List.drop (i*2) ((So i zT++So r gH).flatMap bb)=(So r gH).flatMap bb:=by
  rw[Yx,List.drop_append_of_le_length aa,List.drop_of_length_le aa,List.nil_append]
 have e:(List.take (i*2) ((So i zT++So r gH).flatMap bb)++List.take (m*2) ((So j zT).flatMap bb)++List.drop (i*2+m*2) ((So i zT++So r gH).flatMap bb))=(So (i+m) zT++So (r-m) gH).flatMap bb:=by
  rw[p1,alY zT mj,<-List.drop_drop,p2,alZ gH mr,Yx,<-List.replicate_append_replicate,Yx]
 grind[MQ,bP.eq_1]
theorem Sv{h:Hp}{n:Nat}(hn:n<10)(K:KL)(h0:Hp):∀(f i r:Nat),r<=f->0<i->i+r=n->K (.exit 0) [] (hz h (So n zT)) ->
  lp (CN DA (RW h) (.ref (RW h) 1 0 n n (n*2))) [] h0 [I i] (hz h (So i zT++So r gH)) K
 | f,i,0,hf,hi0,hi,hK=>by
  have:i=n:=aa;subst this;apply aL;have l1:bh (.ref (RW h) 1 0 i i (i*2))=Wf (I i):=rfl;have PJ:¬((i:Int)<(i:Int)):=aa
  simp_all[CN]
 |0,i,r+1,hf,hi0,hi,hK=>by omega
 | f+1,i,r+1,hf,hi0,hi,hK=>by
  apply aL;have l1:bh (.ref (RW h) 1 0 n n (n*2))=Wf (I n):=rfl;have PJ:((i:Int)<(n:Int)):=aa;simp only[CN];have hl:RW ((So i zT++So (r+1) gH).flatMap bb)=n*2:=by rw[Sw,hi]
  have hg:=ij (DU h (So i zT++So (r+1) gH))
  have s1:gU (hz h (So i zT++So (r+1) gH)) 2 (V.ref (RW h) 1 0 n n (n*2)) (Wf (I i)) Vc=Wf (.ref (RW h) 1 (i*2) (r+1) (r+1) (n*2)):=by
   have b1:eG 0 n (Wf (I (i:Int)))=Wf i:=by
    show(if(0:Int)<=i∧(i:Int)<=(n:Int)then Wf (i:Int).toNat else Vc)=_
    rw[ip ⟨aa,aa⟩,Int.toNat_natCast]
   simp only[gU,hg,eG,b1]
   show(match eG 0 n (Wf (I (i:Int)))with|some i=>_|none=>Vc)=_
   rw[b1];simp only;rw[ip ⟨hl.symm,Z8 _,cU⟩,Zh,show n-i=r+1 by omega]
  have s2:gU (hz h (So i zT++So (r+1) gH)) 2 (V.ref (RW h) 1 0 n n (n*2)) Vc (Wf (I i))=Wf (.ref (RW h) 1 0 i n (n*2)):=by
   have b1:eG n n (Wf (I (i:Int)))=Wf i:=by
    show(if(0:Int)<=i∧(i:Int)<=(n:Int)then Wf (i:Int).toNat else Vc)=_
    rw[ip ⟨aa,aa⟩,Int.toNat_natCast]
   simp only[gU,hg,b1]
   show(match eG 0 i Vc with|some i'=>_|none=>Vc)=_
   rw[show eG 0 i Vc=Wf 0 from rfl];simp only;rw[ip ⟨hl.symm,Z8 _,cU⟩];simp
  have hc:cellsOf (hz h (So i zT++So (r+1) gH)) (.ref (RW h) 1 0 i n (n*2))=Wf (i,(So i zT).flatMap bb):=by
   simp only[cellsOf,hg];rw[ip ⟨hl.symm,aa⟩,Yz,Yx,List.take_append_of_le_length (by grind[BN]),Zx (by grind[BN])]
  simp[l1,PJ,s1,s2];refine aah (m:=min i (r+1)) hi rfl aa hc ?_;have⟨m,hm⟩:=bD (min i (r+1));rw[<-hm];have ih:=Sv hn K h0 f (i+m) (r+1-m) aa aa aa hK;simp(disch:=omega) []
  grind[jX,lo]
theorem ag0{h:Hp}(hu:(h.all λx=>cj (RW h) x.2)=Th)(h1:0<n)(hn:n<10):CI Y F.xC [.d (.sl 1 (bb zT)),I n] h (.new 2 ((So n zT).flatMap bb) Th n n) h:=by
 apply aeP;have mu:=aiO (n:=n) hn;have nn:¬((n:Int)<0):=aa;simp only[xC];have w1:iK.u64.wrap (n:Int)=n:=wrap_u64 aa;have v1:bh (.d (.sl 1 (bb zT)))=Wf (I 1):=rfl;have v2:ft iK.u64 (I 1)=Wf (.d (.int .u64 1)):=rfl;simp[nn];apply cg;rw[w1];simp[v1,v2];refine cd mu ?_ aM
 simp;apply cg;simp(disch:=omega) [];refine Ua (e:=0) (b:=.none) ac aa ?_;have e0:(h++[(0,Bk.none)]).set (RW h) (0+1,.data 2 ((So n gH).flatMap bb) Th SM)=hz h (So 0 zT++So n gH):=by simp[hz]
 rw[e0]
 have c1:=aah (h:=h) (n:=n) (i:=0) (r:=n) (j:=1) (m:=1) (cap:=n) (y:=.d (.sl 1 (bb zT))) (k:=λv18 h_2=>
    lp (CN DA (RW h) (.ref (RW h) 1 0 n n (n*2))) [] h_2 [v18] h_2
     (aU [(Exit.exit 0,λl19 h_3=>fA (RW h) (V.new 2 (List.flatMap bb (So n zT)) Th n n) h (.ref (RW h) 1 0 n n (n*2)) h_3)])) (u:=.mk) aa aa aa aM ?_
 .exact c1
 refine Sv hn _ _ n 1 (n-1) aa aa aa ?_;have hfl:=BN zT n;refine⟨by simp[hz],?_,.inr (.inr (.inl ⟨RW h,1,n,n,2,(So n zT).flatMap bb,true,by rw[hfl],Z8 _,?_,rfl⟩))⟩
 .omega
 .simp[hz,aH]
theorem aam{h:Hp}{s fs:List Q}{k:Q}{i:Nat}(hi:i<RW fs)(hki:nth ([],[]) (fs.map tx) i=tx k)(hf:RW fs<1000000)(hN:RW s<1000000){Ko Ks Kk:Nat}(hk:gC k)(lk:qL Kk k)
  (b1:Ko<=100000) (b2:Ks+Kk<=100000) (h0:Hp) (kk:KL):∀(q a oq a':List Q),a++q=s->RW a'=RW a->RW oq=RW q->fJ Ko oq->fJ Ks q->kk (.exit 2) [] (hz h ((a'++iW k oq q).map tx)) ->
  lp (EW DA (RW h) (aX fs) (.ref (RW h) 1 0 (RW s) (RW s) (RW s*2)) (I i) (aX s) (I (RW s))) [] h0 [I (RW a)] (hz h ((a'++oq).map tx)) kk
 | [],a,oq,a',ha,h1,h2,ho,hs,hkk=>by
  simp[Zo]at ha;simp only[List.length_nil]at h2;have h2':oq=[]:=Zn h2;subst ha h2';have PJ:¬((RW a:Int)<(RW a:Int)):=aa;apply aL
  simp_all[EW,iW]
 |x::q,a,[],a',ha,h1,h2,ho,hs,hkk=>by simp at h2
 | x::q,a,y::oq,a',ha,h1,h2,ho,hs,hkk=>by
  have DQ:RW a<RW s:=by subst ha;simp
  have⟨o1,o2⟩:=ho y ac;have⟨s1,s2⟩:=hs x ac;have Rg:RW ((a'++y::oq).map tx)=RW s:=by subst ha;simp at h2 ⊢;omega
  have mul:=XB s1 hk (s2.mono aa) (lk.mono aa);have add:=M8 o1 (K8 s1 hk) (o2.mono b1) ((K9 s2 lk).mono aa);have g1:(RW a:Int)<(RW s:Int):=aa;have hx:nth ([],[]) (s.map tx) (RW a)=tx x:=by subst ha;exact qd ..
  have hy:nth ([],[]) ((a'++y::oq).map tx) (RW a)=tx y:=by rw[<-h1];exact qd ..
  have i1:=λh:Hp=>lX bb dZ (s.map tx) h (k:=.i64) (i:=(RW a:Int)) aa ae
  have i2:=λh:Hp=>lV bb dZ ([],[]) (s.map tx) h (j:=RW a) ae
  have j1:=λh:Hp=>lX bb dZ (fs.map tx) h (k:=.i64) (i:=(i:Int)) aa ae
  have j2:=λh:Hp=>lV bb dZ ([],[]) (fs.map tx) h (j:=i) ae
  simp[hx,hki,Int.toNat_natCast]at i1 i2 j1 j2;have hg:=DU h ((a'++y::oq).map tx);have e1:=HK hg Rg (c:=RW a) DQ .i64;have e2:=Mi hg Rg (c:=RW a) DQ;have e3:=Fj hg Rg (c:=RW a) DQ (tx (d9 y (il x k)))
  have es:((a'++y::oq).map tx).set (RW a) (tx (d9 y (il x k)))=((a'++[d9 y (il x k)])++oq).map tx:=by
   have:=KE (a'.map tx) (tx y) (tx (d9 y (il x k))) (oq.map tx);rw[List.length_map,h1]at this;simpa using this
  simp only[hy,es,MQ]at e2 e3;have ih:=aam (h:=h) hi hki hf hN hk lk b1 b2 h0 kk q (a++[x]) oq (a'++[d9 y (il x k)]) ae ae ae (λw hw=>ho w ae) (λw hw=>hs w ae) (by grind[iW]);have e4:((RW (a++[x]):Nat):Int)=(RW a:Int)+1:=ac;rw[e4]at ih;simp[qT]at mul add;have⟨w1,w2,hw⟩:∃w1 w2,qT (il x k)=[S w1,S w2]:=⟨_,_,rfl⟩
  have z1:aX s=de bb (s.map tx):=rfl;have z2:aX fs=de bb (fs.map tx):=rfl;generalize hz h ((a'++y::oq).map tx)=H0 at *;generalize hz h ((a'++[d9 y (il x k)]++oq).map tx)=H1 at *;apply aL;simp only[EW];simp[z1,z2,i1,i2,j1,j2,e1,e2,g1];refine cd mul ?_ aM;simp;refine cd add ?_ aM
  have e3':st H0 2 (V.ptr (RW h) 1 (RW a*2) (RW s*2)) (.agg [S (itoa (d9 y (il x k)).fst),S (aA (d9 y (il x k)).snd)])=Wf H1:=e3;simp(disch:=omega) [e1,e3']
  grind[jX,lo]
theorem aak{h:Hp}{n:Nat}{fs:List Q}(hf:RW fs<1000000)(hN:n<1000000){Ks Kk:Nat}(b2:Ks+Kk<=90000)(h0:Hp)(kk:KL):∀(l a:List (List Q))(q f:List Q)(o:List Q)(Ko:Nat),f++q=fs->RW f=RW a->RW l=RW q->Ko+RW l*(Ks+Kk+1)<=100000 ->
  (RW o)=n->fJ Ko o->(∀s∈l,RW s=n∧fJ Ks s)->fJ Kk q->kk (.exit 0) [] (hz h ((nA o l q).map tx)) ->
  lp (EX DA (RW h) (aX fs) (.ref (RW h) 1 0 n n (n*2)) (aj bX (a++l)) (I (RW (a++l)))) [] h0 [I (RW a)] (hz h (o.map tx)) kk
 | [],a,q,f,o,Ko,hfq,h1,h2,b1,hn,ho,hl,hq,hkk=>by
  have PJ:¬((RW a:Int)<(RW (a++[]):Int)):=ac;apply aL;simp only[EX];simp[PJ]
  grind[nA]
 |s::l,a,[],f,o,Ko,hfq,h1,h2,b1,hn,ho,hl,hq,hkk=>by simp at h2
 | s::l,a,k::q,f,o,Ko,hfq,h1,h2,b1,hn,ho,hl,hq,hkk=>by
  have⟨s1,s2⟩:=hl s ac;have⟨k1,k2⟩:=hq k ac;have hLl:(RW l+1)*(Ks+Kk+1)=RW l*(Ks+Kk+1)+(Ks+Kk+1):=X3 ..;rw[List.length_cons,hLl]at b1;have hb:RW (a++s::l)<1000000:=by simp at h2 ⊢;subst hfq;simp at hf;omega
  have g1:(RW a:Int)<(RW (a++s::l):Int):=by simp;omega
  have i1:=λh:Hp=>mH bX (a++s::l) h (k:=.i64) (i:=(RW a:Int)) aa g1
  have i2:=λh:Hp=>mZ bX [] (a++s::l) h (j:=RW a) ac
  have hnt:nth [] (a++s::l) (RW a)=s:=ac;simp only[hnt,Int.toNat_natCast]at i1 i2;have hlv:bh (.ref (RW h) 1 0 n n (n*2))=Wf (I n):=rfl;have hki:nth ([],[]) (fs.map tx) (RW a)=tx k:=by rw[<-hfq,<-h1];exact qd ..
  have hi:RW a<RW fs:=by rw[<-hfq];simp;omega
  simp only[Fa]at i2;have ih:=aak (h:=h) hf hN b2 h0 kk l (a++[s]) q (f++[k]) (iW k o s) (Ko+(Ks+Kk)+1) ae ae ae aa (by rw[zw k o s (hn.trans s1.symm),s1]) (Jg k1 k2 ho s2) (λt ht=>hl t ae) (λt ht=>hq t ae) cU;have e4:((RW (a++[s]):Nat):Int)=(RW a:Int)+1:=ac;have e5:a++[s]++l=a++s::l:=ac
  rw[e4,e5]at ih;generalize a++s::l=L at *;apply aL;simp only[EX];simp[i1,i2,g1,hlv];subst s1;refine lo (aam hi hki hf hN k1 k2 (Ko:=Ko) (Ks:=Ks) aa aa _ _ s [] o [] rfl rfl hn ho s2 ?_);simp(disch:=omega) []
  grind[jX,lo]
theorem aoE{h:Hp}(hu:(h.all λx=>cj (RW h) x.2)=Th){p:aw}{l:List (List Q)}{fs:List Q}{Ks Kk:Nat}(h0:0<RW p)(hN:RW p<10)(hf:RW fs<1000000)(Rg:RW l=RW fs)(b2:Ks+Kk<=90000)(b1:1+RW l*(Ks+Kk+1)<=100000)
  (hl:∀s∈l,RW s=RW p∧fJ Ks s) (hq:fJ Kk fs):CI Y F.xo [aj di p,aj bX l,aX fs] h (.new 2 (fP (gA (RW p) l fs)) Th (RW p) (RW p)) h:=by
 apply adb
 have hu1:((h++[(0,Bk.none)]).all λx=>cj (RW (h++[(0,Bk.none)])) x.2)=Th:=by
  simp only[Yo,Z7];refine⟨?_,rfl⟩;rw[Zz]at hu ⊢;intro x hx;exact ER ac (hu x hx)
 have zi:=ag0 hu1 (n:=RW p) h0 hN;have l1:bh (aj di p)=Wf (I (RW p)):=rfl;have l2:bh (aj bX l)=Wf (I (RW l)):=rfl;simp only[xo]
 have li:∀H:Hp,cI 1 [D.str [],D.str []] [(0,V.agg [V.d (D.str [48]),V.d (D.str [49])])] H=Wf (bb zT,H):=λH=>by
  have q1:itoa 0=[48]:=dw;have q2:aA 1=[49]:=dw;have:=Dw (0,1) H;simp[qT,q1,q2]at this;exact this
 simp[l1,l2,li];refine ii (jS (e:=0) (b:=.none) zi ac ?_);have e0:(h++[(0,Bk.none)]).set (RW h) (0+1,.data 2 ((So (RW p) zT).flatMap bb) Th SM)=hz h ((So (RW p) (0,1)).map tx):=by simp[hz,zT]
 rw[e0,BN];have hz':fJ 1 (So (RW p) ((0,1):Q)):=EL (RW p);refine aak (n:=RW p) hf aa b2 _ _ l [] fs [] _ 1 rfl rfl Rg b1 ac hz' hl hq ?_;simp
 have hln:RW (gA (RW p) l fs)=RW p:=by
  unfold gA;rw[vi (λs hs=>by grind)];simp
 have hfl:RW (fP (gA (RW p) l fs))=RW p*2:=by rw[C9,hln]
 refine⟨by simp[hz],?_,.inr (.inr (.inl ⟨RW h,1,RW p,RW p,2,fP (gA (RW p) l fs),true,by rw[hfl],Z8 _,?_,rfl⟩))⟩
 .omega
 .simp[hz,aH,fP,gA]
def bM(p:aw)(c w:Mz)(g:List (List Q)):bq:=[aj di p,bf c,bf w,aj bX g]
def dj(p:aw)(c w:Mz)(g:List (List Q)):V:=.agg (bM p c w g)
structure nW(p:aw)(c w:Mz)(g:List (List Q)):Prop where
 tp:rJ p c w
 gl:RW g=RW w
 gs:∀s∈g,RW s=RW p∧jq s
variable{p:aw}{c w:Mz}{g:List (List Q)}
theorem PM(h:nW p c w g):Ds F.xp [dj p c w g] (I 0):=by
 apply adf;have hn:=h.tp.lc.n12;have hwl:=h.tp.lw.ml;have hgl:=h.gl;have a1:=JJ h.tp;have a2:=Oe (p:=p) (l:=g) aa aa (λs hs=>⟨(h.gs s hs).2,by grind[nW.gs]⟩);rw[ip h.tp.pr,I8 λs hs=>(h.gs s hs).1]at a2;have l1:bh (aj bX g)=Wf (I (RW g)):=rfl;have l2:bh (bf w)=Wf (I (RW w)):=rfl
 have g1:((RW g:Int)=(RW w:Int))=True:=eq_true aa;simp only[xp,dj,bM];simp;refine cd (args:=[gM p c w]) a1 ?_ aM;simp[l1,l2,g1];refine cd a2 ?_ aM;simp
theorem adg(hp:ef p=0)(hN:RW p<1000000)(hl:RW s=RW p)(hs:jq s):Ds F.zP [aj di p,aX s] (.tup [aX s,I 0]):=by apply ac8;simp only[zP];simp;refine cd (aax hp hN hl hs) ?_ aM;simp;exact⟨_,rfl⟩
def pS(p:aw)(w:Mz)(g:List (List Q))(x:aw):List Q:=gA (RW p) g (fB (dO w x))
structure aby(p:aw)(w:Mz)(x:aw):Prop where
 l:RW x=RW p
 s:oe x=Th
 b:lG x
 r:kt x=0
 t:lG (dO w x)
theorem adJ{h:Hp}(hu:(h.all λx=>cj (RW h) x.2)=Th)(ht:nW p c w g)(hp10:RW p<10){x:aw}(hx:aby p w x):CI Y F.xm [dj p c w g,aj di x] h (.tup [.new 2 (fP (pS p w g x)) Th (RW p) (RW p),I 0]) h:=by
 apply ac6;have hn:=ht.tp.lc.n12;have hwl:=ht.tp.lw.ml;have hgl:=ht.gl;have a1:=PM ht;have a2:=T9 (p:=p) (r:=x) aa;rw[aiJ ht.tp.pr hx.l hx.s]at a2;have a3:=aqo ht.tp hx.l hx.b hx.r hx.t;have tl:RW (dO w x)=RW w:=by simp[dO]
 have a4:=TG hx.t aa
 have hu1:((h++[(1,Bk.vars (bM p c w g)),(0,Bk.none)]).all λx=>cj (RW (h++[(1,Bk.vars (bM p c w g)),(0,Bk.none)])) x.2)=Th:=by
  simp only[Yo,Z7];refine⟨?_,rfl⟩;rw[Zz]at hu ⊢;intro x hx;exact ER ac (hu x hx)
 have ok1:fJ 30 (fB (dO w x)):=λy hy=>by
  obtain⟨z,hz,rfl⟩:=Zw.1 hy;exact Dj (hx.t z hz)
 have a5:=aoE (p:=p) (l:=g) (fs:=fB (dO w x)) hu1 (Ks:=30) (Kk:=30) ht.tp.lc.n0 hp10 (by grind[wh]) (by grind[wh]) aa aa (λs hs=>ht.gs s hs) ok1;have e0:(h++[(0,Bk.none),(0,Bk.none)])[RW h]?=Wf (0,Bk.none):=ac;have es:(h++[(0,Bk.none),(0,Bk.none)]).set (RW h) (1,.vars (bM p c w g))=h++[(1,Bk.vars (bM p c w g)),(0,Bk.none)]:=ac
 have hx1:iJ (h++[(1,Bk.vars (bM p c w g)),(0,Bk.none)]) (RW h) 1=.vars (bM p c w g):=by simp[iJ,aH]
 have hs1:(h++[(1,Bk.vars (bM p c w g)),(0,Bk.none)])[RW h+1]?=Wf (0,Bk.none):=ac
 have hf:∀y,(h++[(1,Bk.vars (bM p c w g)),(0,Bk.none)]).set (RW h+1) y=h++[(1,Bk.vars (bM p c w g)),y]:=λy=>by
  simp
 simp only[xm,dj];simp only[bM]at *;simp[e0,es,hx1];have⟨H1,hH⟩:=bD (h++[(1,Bk.vars [aj di p,bf c,bf w,aj bX g]),(0,Bk.none)]);rw[<-hH]at a5 hx1 hs1 hf ⊢;refine cd (args:=[dj p c w g]) a1 ?_ aM;simp[hx1];refine cd a2 ?_ aM;simp[hx1];refine cd (args:=[gM p c w,aj di x]) a3 ?_ aM;simp[hx1];refine cd a4 ?_ aM;simp[hx1]
 refine ii (jS (e:=0) (b:=.none) a5 hs1 ?_);rw[hf]
 have hln:RW (gA (RW p) g (fB (dO w x)))=RW p:=by
  unfold gA;rw[vi (λs hs=>by grind[nW.gs])];simp
 have hfl:RW (fP (pS p w g x))=RW p*2:=by rw[C9,pS,hln]
 simp;refine⟨ac,?_,.inr (.inr (.inr (.inr (.inl ⟨RW h+1,1,RW p,RW p,2,fP (pS p w g x),true,.int .i64 0,aM,Nat.le_succ _,?_,rfl⟩))))⟩
 .omega
 .simp[aH];rfl
def mb(p:aw)(w:Mz)(g:List (List Q))(x:aw):List Q:=List.zipWith (λa z=>d9 a (jp (z,1))) (pS p w g x) x
def m7(C:bq)(x2:Nat×Bk)(s:List Q):Hp:=[(1,.vars C),(1,.data 2 ((s.map tx).flatMap bb) Th SM),x2]
theorem XW{C:bq}(hC:offB [2] (.vars C)=Th){n:Nat}{x:aw}(hxb:lG x)(hx:RW x=n)(hn:n<1000)(h0:Hp)(hh:∃u v w,h0=[u,v,(0,w)])(K:KL):∀(q a:aw)(o e:List Q),a++q=x->RW e=RW a->RW o=RW q->fJ 50000 o->K (.exit 0) [] (m7 C ah (e++List.zipWith (λa z=>d9 a (jp (z,1))) o q)) ->
  lp (EY DA (.ref 1 1 0 n n (n*2)) (aX (fB x)) (I n)) [2] h0 [I (RW a)] (m7 C ah (e++o)) K
 | [],a,o,e,ha,h1,h2,ho,hK=>by
  simp[Zo]at ha;simp only[List.length_nil]at h2;have h2':o=[]:=Zn h2;subst ha h2' hx;have PJ:¬((RW a:Int)<(RW a:Int)):=aa;apply aL
  simp_all[EY]
 |z::q,a,[],e,ha,h1,h2,ho,hK=>by simp at h2
 | z::q,a,y::o,e,ha,h1,h2,ho,hK=>by
  have DQ:RW a<n:=by rw[<-hx,<-ha];simp
  have⟨o1,o2⟩:=ho y ac;have Rg:RW ((e++y::o).map tx)=n:=by rw[<-hx,<-ha];simp at h2 ⊢;omega
  have hz:=hxb z ae;have⟨z1,z2⟩:=Dj hz;have sub:=al3 o1 z1 o2 (z2.mono aa);have g1:(RW a:Int)<(n:Int):=aa
  have hxn:nth ([],[]) ((fB x).map tx) (RW a)=tx (z,1):=by
   have e1:(fB x).map tx=(fB a++(z,1)::fB q).map tx:=by rw[<-ha];simp[fB]
   have:=qd ([],[]) tx (fB a) (z,1) (fB q);rw[wh]at this;rw[e1,this]
  have hy:nth ([],[]) ((e++y::o).map tx) (RW a)=tx y:=by rw[<-h1];exact qd ..
  have i1:=λh:Hp=>lX bb dZ ((fB x).map tx) h (k:=.i64) (i:=(RW a:Int)) aa (by grind[wh])
  have i2:=λh:Hp=>lV bb dZ ([],[]) ((fB x).map tx) h (j:=RW a) (by grind[wh])
  simp[hxn,Int.toNat_natCast]at i1 i2;have hg:∀x2,(m7 C x2 (e++y::o))[1]?=Wf (1,.data 2 (((e++y::o).map tx).flatMap bb) Th SM):=λx2=>rfl
  have e1:=λx2=>HK (hg x2) Rg (c:=RW a) DQ .i64
  have e2:=λx2=>Mi (hg x2) Rg (c:=RW a) DQ
  have e3:=λx2=>Fj (hg x2) Rg (c:=RW a) DQ (tx (d9 y (jp (z,1))))
  have es:((e++y::o).map tx).set (RW a) (tx (d9 y (jp (z,1))))=((e++[d9 y (jp (z,1))])++o).map tx:=by
   have:=KE (e.map tx) (tx y) (tx (d9 y (jp (z,1)))) (o.map tx);rw[List.length_map,h1]at this;simpa using this
  simp only[hy,es]at e2 e3;have ih:=XW hC hxb hx hn h0 hh K q (a++[z]) o (e++[d9 y (jp (z,1))]) ae ae ae (λw hw=>ho w ae) xP;have e4:((RW (a++[z]):Nat):Int)=(RW a:Int)+1:=ac;rw[e4]at ih;have z2:aX (fB x)=de bb ((fB x).map tx):=rfl;simp[qT]at sub
  have e3':∀x2,st (m7 C x2 (e++y::o)) 2 (.ptr 1 1 (RW a*2) (n*2)) (.agg [S (itoa (d9 y (jp (z,1))).fst),S (aA (d9 y (jp (z,1))).snd)])=Wf (m7 C x2 (e++[d9 y (jp (z,1))]++o)):=e3;have hs2:(m7 C ah (e++y::o))[2]?=Wf ah:=rfl;have hs3:∀b b',(m7 C b (e++y::o)).set 2 b'=m7 C b' (e++y::o):=λb b'=>rfl
  have hx2:∀b,iJ (m7 C (1,b) (e++y::o)) 2 1=b:=λb=>rfl
  have i2':∀h:Hp,aG h 2 (.dptr (((fB x).map tx).flatMap bb) (RW a*2))=Wf (.agg [S (itoa z),S (aA 1)]):=i2;have e2':∀x2,aG (m7 C x2 (e++y::o)) 2 (.ptr 1 1 (RW a*2) (n*2))=Wf (.agg [S (itoa y.1),S (aA y.2)]):=e2;apply aL;simp only[EY];simp[z2,i1,i2',g1,hs2,hs3,hx2,e1,e2'];refine cd sub ?_ aM;simp(disch:=omega) [e1,e3']
  have es2:e++d9 y (jp (z,1))::o=e++[d9 y (jp (z,1))]++o:=ac
  have rs:∀b s,dl [2] 0 h0 (m7 C (1,b) s)=m7 C ah s:=λb s=>by
   obtain⟨⟨u1,u2⟩,⟨v1,v2⟩,w,rfl⟩:=hh;rfl
  rw[rs,es2];refine⟨?_,lo ih⟩;simp only[clean,m7,iq,hC];rfl
theorem PK(ht:nW p c w g)(hp10:RW p<10){x:aw}(hx:aby p w x)(hr:jq (mb p w g x)):Ds F.vf [dj p c w g,aj di x] (.tup [aX (mb p w g x),I 0]):=by
 apply ade;have hn:=ht.tp.lc.n12;have hxl:=hx.l;have hwl:=ht.tp.lw.ml;have hgl:=ht.gl;have a1:=adJ (h:=[(1,.vars (bM p c w g)),ah,ah]) rfl ht hp10 hx;have tl:RW (dO w x)=RW w:=by simp[dO]
 have ok1:fJ 30 (fB (dO w x)):=λy hy=>by
  obtain⟨z,hz,rfl⟩:=Zw.1 hy;exact Dj (hx.t z hz)
 have hln:RW (pS p w g x)=RW p:=by
  unfold pS gA;rw[vi (λs hs=>by grind[nW.gs])];simp
 have ok2:fJ 50000 (pS p w g x):=λy hy=>by
  have:=J2 (EL (RW p)) (λs hs=>(ht.gs s hs).2) ok1 y hy;exact⟨this.1,this.2.mono aa⟩
 have a2:=TG hx.b aa;have a3:=adg ht.tp.pr aa (by grind[mb.eq_1]) hr;have l1:bh (aX (fB x))=Wf (I (RW p)):=by rw[Bo,wh,hxl]
 simp only[vf,dj];simp only[bM]at *;simp;refine ii (apa (e:=0) (b:=.none) a1 rfl ?_);have hfl:RW (fP (pS p w g x))=RW p*2:=by rw[C9,hln]
 rw[hfl];simp;refine cd a2 ?_ aM;simp[l1];refine lo (XW (C:=[aj di p,bf c,bf w,aj bX g]) rfl hx.b hxl aa _ ⟨_,_,_,rfl⟩ _ x [] (pS p w g x) [] rfl rfl (by rw[hln,hxl]) ok2 ?_);have ez:List.zipWith (λa z=>d9 a (jp (z,1))) (pS p w g x) x=mb p w g x:=rfl;rw[ez,List.nil_append]
 have sn:=QO (h:=m7 [aj di p,bf c,bf w,aj bX g] ah (mb p w g x)) (s:=1) (e:=1) (n:=RW p) (l:=(mb p w g x).map tx) rfl ae;have l4:ld1 (m7 [aj di p,bf c,bf w,aj bX g] ah (mb p w g x)) (.ptr 0 1 0 4)=Wf (aj di p):=rfl;have hx0:iJ (m7 [aj di p,bf c,bf w,aj bX g] ah (mb p w g x)) 0 1=.vars [aj di p,bf c,bf w,aj bX g]:=rfl
 simp[hx0];have e5:∀h:Hp,bQ h (aj di p)=Wf (aj di p,h):=λh=>rfl
 refine rF (by simp only[bY,e5,sn];rfl) a3 ?_;simp;exact⟨_,rfl⟩
def nh(p:aw)(c w:Mz)(g:List (List Q))(f:Tg->List Q)(t:Tg):Prop:=∃a b:List Q,Ds F.vf [dj p c w g,aj di t.iv] (.tup [aX a,I 0])∧Ds F.vG [aj di p,aX a] (.tup [aX b,I 0])∧Ds F.vC [aj di p,aX b,.agg [S t.num,S t.den]] (.tup [aX (f t),I 0])
def ta:Acc:=⟨2,0,1,.none⟩
def IY(l:List (List Q)):V:=ta.v (RW l) (l.map bX)
def B6(l:List (List Q)):Nat×Bk:=ta.b (RW l) (l.map bX)
theorem ZV{f:Tg->List Q}{l:List Tg}(hl:RW l<1000)(hd:∀t∈l,nh p c w g f t)(h0:Hp)(hh:∃b u x,h0=[b,(0,u),x])(K:KL):∀(q a:List Tg),l=a++q->K (.exit 0) [IY (l.map f)] [(1,.vars (bM p c w g)),ah,B6 (l.map f)] ->
  lp (IX DA (.ptr 0 1 0 4) (aj di p) (dY l) (I (RW l))) [1] h0 [IY (a.map f),I (RW a)] [(1,.vars (bM p c w g)),ah,B6 (a.map f)] K
 | [],a,e,hK=>by
  simp[Zo]at e;subst e;apply aL;have PJ:¬((RW l:Int)<(RW l:Int)):=aa;simp only[IX];simp[PJ];exact hK
 | t::q,a,e,hK=>by
  apply aL;have PJ:((RW a:Int)<(RW l:Int)):=by rw[e];simp;omega
  have DQ:RW a<1000:=aa;have p1:=CE a q t;have p2:=CB a q t;rw[<-e]at p1 p2;have⟨ea,eb,c1,c2,c3⟩:=hd t (by rw[e];simp);have ih:=ZV hl hd h0 hh K q (a++[t]) (by rw[e];simp) hK;have e4:((RW (a++[t]):Nat):Int)=(RW a:Int)+1:=ac;rw[e4,Yn]at ih;have okr:∀r,okV (aj di r)=Th:=λr=>rfl
  have li:∀(s:List Q)(h:Hp),cI 1 [aW] [(0,aX s)] h=Wf ([bX s],h):=λs h=>uk ..
  have l4:∀x y,aG [(1,.vars (bM p c w g)),x,y] 4 (.ptr 0 1 0 4)=Wf (dj p c w g):=λx y=>rfl
  simp only[IX];have⟨D0,hD⟩:=bD (B6 (a.map f));rw[<-hD];simp only[dj,bM]at c1 l4 ⊢;simp[PJ,p1,p2,okr];refine cd c1 ?_ (by simp[bY,bQ,bf]);simp;apply cg;simp;refine cd c2 ?_ aM;simp;apply cg;simp;refine cd c3 ?_ aM;simp[li];have al:RW (a.map f)=RW a:=ac
  have hs:([(1,Bk.vars [aj di p,bf c,bf w,aj bX g]),(1,Bk.vars [aj di t.iv,S t.num,S t.den]),D0]:Hp)[ta.s]?=Wf (ta.b (RW (a.map f)) ((a.map f).map bX)):=by rw[hD];rfl
  refine kM ta (Nd:=24) (k:=1) (cs:=[bX (f t)]) aa hs (by simp[ta]) rfl rfl (by intro t ht;cases ht) aa am ?_;have ev:IY (a.map f++[f t])=ta.v (RW (a.map f)+1) ((a.map f).map bX++[bX (f t)]):=by simp[IY]
  have eb:B6 (a.map f++[f t])=ta.b (RW (a.map f)+1) ((a.map f).map bX++[bX (f t)]):=by simp[B6]
  simp only[Zv,Yq]at ih;rw[ev,eb]at ih;obtain⟨⟨b1,b2⟩,u,⟨x1,x2⟩,rfl⟩:=hh;have ea:aD bO.add (I (RW a:Int)) (V.d (D.int iK.i64 1))=Wf (I ((RW a:Int)+1)):=by simp(disch:=omega) []
  exact xd ea ⟨rfl,ih⟩
theorem NX(ht:nW p c w g){l:List Tg}(hl:RW l<1000)(hs:∀t∈l,oM t)(hc:mK p l=0)(hd:∀t∈l,nh p c w g f t):Ds F.w7 [dj p c w g,dY l] (.tup [aj bX (l.map f),I 0]):=by
 apply aog;have hn:=ht.tp.lc.n12;have a1:=PM ht;have a2:=ZD (p:=p) (l:=l) aa aa hs;rw[hc]at a2;have l1:bh (dY l)=Wf (I (RW l)):=rfl;simp only[w7,dj,bM];simp;refine cd (args:=[dj p c w g]) a1 ?_ (by simp[bY,bQ,dj,bM,bf]);simp;refine cd a2 ?_ aM;simp[l1];refine lo (ZV hl hd _ ⟨_,_,_,rfl⟩ _ l [] rfl ?_)
 have⟨h',e1,_⟩:=mO ta (L:=RW (l.map f)) (cells:=(l.map f).map bX) (h:=[(1,.vars (bM p c w g)),ah,B6 (l.map f)]) rfl (by simp[ta]);exact fR e1 rfl
theorem aoi(ht:nW p c w g)(hs:oM t)(hc:mK p [t]=0)(hd:nh p c w g f t):Ds F.zh [dj p c w g,.agg [aj di t.iv,S t.num,S t.den]] (.tup [aX (f t),I 0]):=by
 apply aoc;have a1:=NX ht (f:=f) (l:=[t]) ac (by simpa using hs) hc (by simpa using hd);simp only[zh,dj,bM];have li:∀H:Hp,cI 1 [aW,D.str [],D.str []] [(0,V.agg [aj di t.iv,S t.num,S t.den])] H=Wf (fx t,H):=λH=>rfl
 have i1:∀H:Hp,bC H 1 (aj bX (List.map f [t])) (I 0)=Wf (.dptr ((List.map f [t]).map bX) 0):=λH=>rfl
 have i2:∀H:Hp,ld1 H (.dptr ((List.map f [t]).map bX) 0)=Wf (aX (f t)):=λH=>rfl
 simp only[Zv,Yq]at a1 i1 i2;have e1:V.d (.sl 1 (fx t))=dY [t]:=by simp[dY,de]
 simp[li];rw[e1];refine cd a1 ?_ (by simp[bY,bQ,dj,bM,bf,dY,de]);simp[i1,i2];exact⟨_,rfl⟩
theorem ahn(x:Tx):Ds F.zg [.agg [S x.1,S x.2]] (B (!decide (x.1=[48]))):=by apply aoa;simp only[zg];simp;exact fp (by by_cases h:x.1=[48]<;>simp[h])
def o5(s:List Q):Bool:=(s.map tx).any λx=>!decide (x.1=[48])
def jZ:Nat->List (List Q)->aw
 |_,[]=>[]
 |i,s::l=>if o5 s=Th then jZ (i+1) l else(i:Int)::jZ (i+1) l
def vV:Acc:=⟨1,0,1,.none⟩
def Gt(l:aw):V:=vV.v (RW l) (l.map di)
def AO(l:aw):Nat×Bk:=vV.b (RW l) (l.map di)
theorem NW{l:List (List Q)}(hl:RW l<1000)(hn:∀s∈l,RW s<1000000)(b0:Nat×Bk)(h0:Hp)(K:KL):∀(q a:List (List Q))(z:aw),l=a++q->RW z<=RW a->K (.exit 0) [Gt (z++jZ (RW a) q)] [b0,AO (z++jZ (RW a) q)] ->
  lp (IS DA (aj bX l) (I (RW l))) [] h0 [Gt z,I (RW a)] [b0,AO z] K
 | [],a,z,e,hz,hK=>by
  simp[Zo]at e;subst e;apply aL;have PJ:¬((RW l:Int)<(RW l:Int)):=aa;simp only[IS];simp[PJ];simpa[jZ]using hK
 | s::q,a,z,e,hz,hK=>by
  apply aL;have PJ:((RW a:Int)<(RW l:Int)):=by rw[e];simp;omega
  have DQ:RW a<RW l:=aa;have i1:∀h:Hp,bC h 1 (aj bX l) (I (RW a))=Wf (.dptr (l.map bX) (RW a)):=λh=>by rw[e];exact yK bX a s q _ _
  have i2:∀h:Hp,ld1 h (.dptr (l.map bX) (RW a))=Wf (aX s):=λh=>by
   rw[pq bX l _ DQ];simp only[e,Zd (Z8 _),Y5,Y2];rfl
  have cs:=aai (g:=F.zg) (p:=λx=>!decide (x.1=[48])) (s.map tx) (by rw[List.length_map];exact hn s (by rw[e];simp)) (λx _=>ahn x);have e4:((RW (a++[s]):Nat):Int)=(RW a:Int)+1:=ac;have z1:aX s=de bb (s.map tx):=rfl;have li:∀(i:Int)(h:Hp),cI 1 [.int .i64 0] [(0,I i)] h=Wf ([di i],h):=λi h=>rfl
  have⟨Z,hZ⟩:=bD (AO z);simp[jZ]at hK;simp only[IS];rw[<-hZ];simp[PJ];apply cg;simp[i1,i2,z1];refine cd cs ?_ aM;cases hp:(s.map tx).any (λx=>!decide (x.1=[48]))with
  | true=>
   have ep:o5 s=Th:=hp;rw[ip ep]at hK;have ih:=NW hl hn b0 h0 K q (a++[s]) z (by rw[e];simp) dG (by rw[List.length_append];exact hK);rw[e4,<-hZ]at ih;simp;apply cg;simp(disch:=omega) [];rw[jX];exact lo ih
  | false=>
   have ep:¬o5 s=Th:=by unfold o5;rw[hp];decide
   rw[iN ep]at hK;have ih:=NW hl hn b0 h0 K q (a++[s]) (z++[(RW a:Int)]) (by rw[e];simp) dG (by rw[List.length_append,List.append_assoc];exact hK);have ev:Gt (z++[(RW a:Int)])=vV.v (RW z+1) (z.map di++[di (RW a)]):=by simp[Gt]
   have eb:AO (z++[(RW a:Int)])=vV.b (RW z+1) (z.map di++[di (RW a)]):=by simp[AO]
   rw[e4,ev,eb]at ih;simp;apply cg;simp[li];refine kM vV (L:=RW z) (cells:=z.map di) (Nd:=8) (k:=1) (cs:=[di (RW a)]) aa (by rw[hZ];rfl) (by simp[vV]) rfl rfl (by intro t ht;cases ht) aa am ?_;have ea:aD bO.add (I (RW a:Int)) (V.d (D.int iK.i64 1))=Wf (I ((RW a:Int)+1)):=by simp(disch:=omega) []
   refine xd ea ⟨ac,?_⟩;rw[jX];exact ih
theorem ZU(ht:nW p c w g){l:List Tg}(hl:RW l<1000)(hs:∀t∈l,oM t)(hc:mK p l=0)(hd:∀t∈l,nh p c w g f t)(hf:∀t∈l,RW (f t)<1000000):Ds F.w6 [dj p c w g,dY l] (.tup [aj di (jZ 0 (l.map f)),I 0]):=by
 apply an9;have a1:=NX ht hl hs hc hd;have l1:bh (aj bX (l.map f))=Wf (I (RW (l.map f))):=rfl;simp only[w6,dj,bM];simp;refine cd (args:=[dj p c w g,dY l]) a1 ?_ (by simp[bY,bQ,dj,bM,bf,dY,de]);simp[l1];have lm:RW (l.map f)=RW l:=ac;rw[<-lm]
 refine lo (NW (l:=l.map f) aa (λs hs=>by obtain⟨t,h1,rfl⟩:=Zw.1 hs;exact hf t h1) _ _ _ (l.map f) [] [] rfl (Z8 _) ?_);have⟨h',e1,_⟩:=mO vV (L:=RW (jZ 0 (l.map f))) (cells:=(jZ 0 (l.map f)).map di) (h:=[(1,.vars (bM p c w g)),AO (jZ 0 (l.map f))]) rfl (by simp[vV]);exact fR e1 rfl
structure Ms where
 t:Tg
 d:List Q
 i:Int
def dP(m:Ms):bF:=[row m.t.iv,.str m.t.num,.str m.t.den,bX m.d,di m.i]
def j5(m:Ms):bq:=[aj di m.t.iv,S m.t.num,S m.t.den,aX m.d,I m.i]
def EZ(p:aw)(c w:Mz)(g:List (List Q)):bF:=[row p,.sl (RW c) (c.map row),.sl (RW w) (w.map row),.sl (RW g) (g.map bX)]
theorem aeh{x y:Ms}{e:Int}(h:Ds F.kr [aj di p,aX y.d,aX x.d] (.tup [I z,I e])):Ds F.nO [.agg (j5 x),.agg (j5 y),.dptr (EZ p c w g) 0] (I z):=by
 apply an8;have l1:∀H:Hp,ld1 H (.dptr (EZ p c w g) 0)=Wf (aj di p):=λH=>rfl
 simp only[nO,j5];simp[l1];refine cd h ?_ aM;simp
theorem cdg{C:rM}{h h':Hp}{g:FuncId}{fs cs args ds:bq}{v:V}{k:bG}{u:PU k}(hs:bY h (fs++args++cs)=Wf (ds,h'))(hc:C g ds v)(hp:fk v=Th)(hk:k v h):rh (bp C h (.fn g fs cs) args) k u:=by
 show bp C h (.fn g fs cs) args k
 grind[bp]
def r4:Hp:=[ah,ah,ah,ah]
def r2:Hp:=[ah,ah]
def r1:Hp:=[ah]
def qS(l:List Ms):V:=de dP l
def tY:Acc:=⟨1,0,5,.none⟩
def CZ(z:List Ms):V:=tY.v (RW z) (z.flatMap dP)
def AG(z:List Ms):Nat×Bk:=tY.b (RW z) (z.flatMap dP)
def gP(f:Tg->List Q):Nat->List Tg->List Ms
 |_,[]=>[]
 |i,t::q=>⟨t,f t,i⟩::gP f (i+1) q
theorem QE{f:Tg->List Q}{l:List Tg}(hl:RW l<1000)(b0 x2:Nat×Bk)(h0:Hp)(K:KL):∀(q a:List Tg)(z:List Ms),l=a++q->RW z=RW a->K (.exit 0) [CZ (z++gP f (RW a) q)] [b0,AG (z++gP f (RW a) q),x2] ->
  lp (IR DA (dY l) (aj bX (l.map f)) (I (RW l))) [] h0 [CZ z,I (RW a)] [b0,AG z,x2] K
 | [],a,z,e,hz,hK=>by
  simp only[Zo]at e;subst e;apply aL;have PJ:¬((RW l:Int)<(RW l:Int)):=aa;simp only[IR];simp[PJ]
  grind[gP]
 | t::q,a,z,e,hz,hK=>by
  apply aL;have PJ:((RW a:Int)<(RW l:Int)):=by rw[e];simp;omega
  have DQ:RW a<1000:=aa;have p1:=CE a q t;have p2:=CB a q t;rw[<-e]at p1 p2
  have i1:∀h:Hp,bC h 1 (aj bX (l.map f)) (I (RW a))=Wf (.dptr ((l.map f).map bX) (RW a)):=λh=>by
   simp_all
  have i2:∀h:Hp,ld1 h (.dptr ((l.map f).map bX) (RW a))=Wf (aX (f t)):=λh=>by
   rw[pq bX (l.map f) _ ae]
   have e6:(l.map f)[RW a]'(by grind)=f t:=by
    simp only[e,Yn,Zv];rw[Zd ac];simp
   rw[e6];rfl
  simp only[gP]at hK;have ih:=QE hl b0 x2 h0 K q (a++[t]) (z++[⟨t,f t,RW a⟩]) ae ae (by rw[List.length_append,List.append_assoc];exact hK);have e4:((RW (a++[t]):Nat):Int)=(RW a:Int)+1:=ac;have ev:CZ (z++[⟨t,f t,RW a⟩])=tY.v (RW z+1) (z.flatMap dP++dP ⟨t,f t,RW a⟩):=by simp[CZ]
  have eb:AG (z++[⟨t,f t,RW a⟩])=tY.b (RW z+1) (z.flatMap dP++dP ⟨t,f t,RW a⟩):=by simp[AG]
  rw[e4,ev,eb]at ih;have bl:∀(t:Tg)(d:List Q)(i:Int),fG [(0,3),(3,1),(4,1)] [aW,.str [],.str [],aW,.int .i64 0] [(0,.agg [aj di t.iv,S t.num,S t.den]),(1,aX d),(2,I i)]=Wf (.agg (j5 ⟨t,d,i⟩)):=λt d i=>rfl
  have li:∀(m:Ms)(H:Hp),cI 1 [aW,.str [],.str [],aW,.int .i64 0] [(0,.agg (j5 m))] H=Wf (dP m,H):=λm H=>rfl
  have⟨Z,hZ⟩:=bD (AG z);have⟨M,hM⟩:=bD (l.map f);simp only[IR];rw[<-hZ];rw[<-hM]at i1 i2 ih ⊢;simp[PJ,i1,i2,p1,p2,bl,li];refine kM tY (L:=RW z) (cells:=z.flatMap dP) (Nd:=88) (k:=1) (cs:=dP ⟨t,f t,RW a⟩) aa (by rw[hZ];rfl) (jB dP (λ_=>rfl) z) rfl rfl ae aa am ?_
  have ea:aD bO.add (I (RW a:Int)) (V.d (D.int iK.i64 1))=Wf (I ((RW a:Int)+1)):=by simp(disch:=omega) []
  refine xd ea ⟨ac,?_⟩;rw[jX];exact ih
def T8:Ms:=⟨nm,[],0⟩
theorem T7(m:Ms):RW (dP m)=5:=rfl
theorem G3(a q:List Ms)(t:Ms)(h:Hp):bC h 5 (qS (a++t::q)) (I (RW a))=Wf (.dptr ((a++t::q).flatMap dP) (RW a*5)):=lX dP T7 _ h (k:=.i64) (i:=(RW a:Int)) aa ae
theorem T5(a q:List Ms)(t:Ms)(h:Hp):aG h 5 (.dptr ((a++t::q).flatMap dP) (RW a*5))=Wf (.agg (j5 t)):=by have:=lV dP T7 T8 (a++t::q) h (j:=RW a) ac;rw[show nth T8 (a++t::q) (RW a)=t by simp]at this;exact this
def jA:Acc:=⟨2,0,1,.none⟩
def lZ(l:aw):V:=jA.v (RW l) (l.map di)
def iS(l:aw):Nat×Bk:=jA.b (RW l) (l.map di)
def mJ(d:List Q):List Ms->aw
 |[]=>[]
 |m::l=>if m.d=d then m.i::mJ d l else mJ d l
theorem DY{b0:Nat×Bk}(hb:offB [1] b0.2=Th)(z:aw)(i:Int)(x:Bk):clean [1] [lZ z,I i] [b0,(1,x),iS z]=Th:=by
 have v1:gZ [1] (lZ z)=Th:=by unfold lZ Acc.v;split<;>rfl
 have v2:offB [1] (iS z).2=Th:=by unfold iS Acc.b;split<;>rfl
 simp only[clean,fK,v1,GM,hb,v2,Bool.or_true,X5];rfl
theorem MZ{l:List Ms}{m0:Ms}{l':List Ms}(e0:l=m0::l')(hl:RW l<1000)(hs:∀m∈l,RW m.d<1000000)(b0:Nat×Bk)(h0:Hp)(hh:∃u v w,h0=[u,(0,v),w])(hb:offB [1] b0.2=Th)(K:KL):∀(q a:List Ms)(z:aw),l=a++q->RW z<=RW a->K (.exit 0) [lZ (z++mJ m0.d q)] [b0,ah,iS (z++mJ m0.d q)] ->
  lp (IU DA (qS l) (qS l) (I (RW l))) [1] h0 [lZ z,I (RW a)] [b0,ah,iS z] K
 | [],a,z,e,hz,hK=>by
  simp only[Zo]at e;subst e;apply aL;have PJ:¬((RW l:Int)<(RW l:Int)):=aa;simp only[IU];simp[PJ]
  grind[mJ]
 | m::q,a,z,e,hz,hK=>by
  apply aL;have PJ:((RW a:Int)<(RW l:Int)):=by rw[e];simp;omega
  have DQ:RW a<1000:=aa;have p1:=G3 a q m;have p2:=T5 a q m;rw[<-e]at p1 p2;have p3:∀h:Hp,bC h 5 (qS l) (I 0)=Wf (.dptr (l.flatMap dP) 0):=λh=>by rw[e0];exact G3 [] l' m0 h
  have p4:∀h:Hp,ld1 h (.dptr (l.flatMap dP) 3)=Wf (aX m0.d):=λh=>by rw[e0];rfl
  have eq:=amE (s:=m.d) (t:=m0.d) (hs m ae);simp only[mJ]at hK;have okm:∀m,(j5 m).all okV=Th:=λm=>rfl
  have⟨Z,hZ⟩:=bD (iS z);simp only[IU];rw[<-hZ];simp[PJ];apply cg;simp only[j5]at p2;have okr:∀r,okV (aj di r)=Th:=λr=>rfl
  have okz:∀s,okV (aX s)=Th:=λr=>rfl
  simp[p1,p2,okr,okz,p3,p4];refine cd eq ?_ aM
  have rs:∀Y x,dl [1] 0 h0 [b0,(1,x),Y]=[b0,ah,Y]:=λY x=>by
   obtain⟨u,v,w,rfl⟩:=hh;rfl
  have ea:aD bO.add (I (RW a:Int)) (V.d (D.int iK.i64 1))=Wf (I ((RW a:Int)+1)):=by simp(disch:=omega) []
  have e4:((RW (a++[m]):Nat):Int)=(RW a:Int)+1:=ac;have li:∀(i:Int)(h:Hp),cI 1 [.int .i64 0] [(0,I i)] h=Wf ([di i],h):=λi h=>rfl
  by_cases em:m.d=m0.d
  .rw[ip em]at hK;have ih:=MZ e0 hl hs b0 h0 hh hb K q (a++[m]) (z++[m.i]) ae ae ae;have ev:lZ (z++[m.i])=jA.v (RW z+1) (z.map di++[di m.i]):=by simp[lZ]
   have eb:iS (z++[m.i])=jA.b (RW z+1) (z.map di++[di m.i]):=by simp[iS]
   have cl:=DY hb (z++[m.i]) ((RW a:Int)+1) (.vars [aj di m.t.iv,S m.t.num,S m.t.den,aX m.d,I m.i]);rw[ev,eb]at cl;rw[e4,ev,eb]at ih;have em':decide (m.d=m0.d)=Th:=by simp[em]
   rw[em'];simp;apply cg;simp[li];refine kM jA (L:=RW z) (cells:=z.map di) (Nd:=8) (k:=1) (cs:=[di m.i]) aa (by rw[hZ];rfl) (by simp[jA]) rfl rfl ae aa am ?_
   grind[xd,jA]
  .rw[iN em]at hK;have ih:=MZ e0 hl hs b0 h0 hh hb K q (a++[m]) z ae aa hK;have cl:=DY hb z ((RW a:Int)+1) (.vars [aj di m.t.iv,S m.t.num,S m.t.den,aX m.d,I m.i]);rw[<-hZ]at cl ih;rw[e4]at ih;have em':decide (m.d=m0.d)=SM:=by simp[em]
   rw[em'];simp;apply cg;simp(disch:=omega) []
   simp_all
section
variable{p:aw}{c w:Mz}{g:List (List Q)}
def hB(l:List Ms):Bk:=.data 5 (l.flatMap dP) SM SM
def hL(C:bq)(l:List Ms)(r:Hp):Hp:=(1,.vars C)::(1,hB l)::r
theorem yo:∀x:Ms,RW (dP x)=5:=λ_=>rfl
theorem WJ(a:List Ms)(x:Ms)(b:List Ms)(hn:n=RW (a++x::b)):wD (hB (a++x::b)) 5 1 1 0 n (n*5) (RW a:Int)=Wf (.ptr 1 1 (RW a*5) (n*5)):=by unfold hB;rw[akF _ _ _ _ _ _ _ _ _ _ _ (by rw[jB dP yo,hn]) aa ae];simp
theorem WI(a:List Ms)(x:Ms)(b:List Ms)(hn:n=RW (a++x::b)):uq (hB (a++x::b)) 5 (RW a*5) (n*5)=Wf (.agg (j5 x)):=by
 have hm:nth x (a++x::b) (RW a)=x:=by
  clear hn
  induction a with
  |nil=>rfl
  |cons y a ih=>trivial
 unfold hB;rw[ajO,ip (by rw[jB dP yo,hn]),I5 dP yo x _ ac,hm];rfl
theorem WH(C:bq)(a:List Ms)(x y:Ms)(b:List Ms)(r:Hp)(hn:n=RW (a++x::b)):tL (hB (a++x::b)) (hL C (a++x::b) r) 1 1 (RW a*5) (n*5) (j5 y)=Wf (hL C (a++y::b) r):=by
 have fl:=jB dP yo (a++x::b);have fa:=jB dP yo a;have e0:d8 (hL C (a++x::b) r) (j5 y)=Wf (dP y,hL C (a++x::b) r):=rfl;have e1:aH (hL C (a++x::b) r) 1 1=.data 5 ((a++x::b).flatMap dP) SM SM:=rfl
 have e2:((a++x::b).flatMap dP).take (RW a*5)=a.flatMap dP:=by
  rw[Yx,<-fa,W5]
 have e3:((a++x::b).flatMap dP).drop (RW a*5+5)=b.flatMap dP:=by
  rw[Yx,Xy,<-List.append_assoc,Wv (by rw[List.length_append,fa];rfl)]
 have e4:(a++y::b).flatMap dP=a.flatMap dP++dP y++b.flatMap dP:=ac;simp only[hB,tL,jk,e1,e0];have e5:RW (dP y)=5:=rfl;rw[ip ⟨trivial,by rw[fl,hn],ae⟩,e5,e2,e3,<-e4];rfl
def inn(cf:Ms->Ms->Int)(x:Ms):List Ms->List Ms
 |[]=>[x]
 |y::q=>if cf x y<0 then y::inn cf x q else x::y::q
def pz(cf:Ms->Ms->Int):List Ms->List Ms->List Ms
 |a,[]=>a
 |a,x::q=>pz cf (inn cf x a) q
theorem MO(cf:Ms->Ms->Int)(x:Ms):∀a,RW (inn cf x a)=RW a+1
 |[]=>rfl
 | y::q=>by
  unfold inn;split
  .simp[MO cf x q]
  .rfl
variable{P:Ms->Prop}{cf:Ms->Ms->Int}(hc:∀x y,P x->P y->∃e:Int,Ds F.kr [aj di p,aX y.d,aX x.d] (.tup [I (cf x y),I e]))
include hc
theorem VL{n:Nat}(hn:n<1000){b:Nat}(h0 r:Hp)(hr:RW h0=RW r+2)(K:KL):∀(pre:List Ms)(x:Ms)(post:List Ms),(∀y∈pre,P y)->P x->n=RW pre+1+RW post ->
  K (.exit 2) [] (hL (bM p c w g) ((inn cf x pre).reverse++post) r) ->
  lp (Fs DA b (.ref 1 1 0 n n (n*5)) (I 0) (.fn F.nO [] [.ptr 0 1 0 4])) [] h0 [I (RW pre)] (hL (bM p c w g) (pre.reverse++x::post) r) K
 | [],x,post,hp,hx,en,hK=>by
  apply aL;simp only[Fs];simp;exact hK
 | y::q,x,post,hp,hx,en,hK=>by
  have⟨e,ce⟩:=hc x y hx (hp y ac);have c1:=aeh (p:=p) (c:=c) (w:=w) (g:=g) ce;have hg:∀l,iJ (hL (bM p c w g) l r) 1 1=hB l:=λl=>rfl
  have sn:∀l x y,bY (hL (bM p c w g) l r) ([]++[.agg (j5 x),.agg (j5 y)]++[.ptr 0 1 0 4])=Wf ([.agg (j5 x),.agg (j5 y),.dptr (EZ p c w g) 0],(1,.data 1 (EZ p c w g) SM Th)::(1,hB l)::r):=λl x y=>rfl
  have ml:∀a,RW (j5 a)=5:=λa=>rfl
  have el:(y::q).reverse++x::post=q.reverse++y::x::post:=ac;have el2:RW (q.reverse++[y])=RW q+1:=ac;have el3:∀z,q.reverse++z::x::post=(q.reverse++[z])++x::post:=λz=>by simp
  have nn:∀u v,n=RW (q.reverse++u::v::post):=λu v=>by grind
  have i0:∀u v,wD (hB (q.reverse++u::v::post)) 5 1 1 0 n (n*5) (RW q:Int)=Wf (.ptr 1 1 (RW q*5) (n*5)):=λu v=>by
   grind[WJ]
  have i1:∀u v,wD (hB (q.reverse++u::v::post)) 5 1 1 0 n (n*5) ((RW q:Int)+1)=Wf (.ptr 1 1 ((RW q+1)*5) (n*5)):=λu v=>by
   have:=WJ (q.reverse++[u]) v post ((nn u v).trans ac);grind
  have d0:∀u v,uq (hB (q.reverse++u::v::post)) 5 (RW q*5) (n*5)=Wf (.agg (j5 u)):=λu v=>by
   grind[WI]
  have d1:∀u v,uq (hB (q.reverse++u::v::post)) 5 ((RW q+1)*5) (n*5)=Wf (.agg (j5 v)):=λu v=>by
   have:=WI (q.reverse++[u]) v post ((nn u v).trans ac);grind
  have s0:∀u v z,tL (hB (q.reverse++u::v::post)) (hL (bM p c w g) (q.reverse++u::v::post) r) 1 1 (RW q*5) (n*5) (j5 z)=Wf (hL (bM p c w g) (q.reverse++z::v::post) r):=λu v z=>by
   grind[WH]
  have s1:∀u v z,tL (hB (q.reverse++u::v::post)) (hL (bM p c w g) (q.reverse++u::v::post) r) 1 1 ((RW q+1)*5) (n*5) (j5 z)=Wf (hL (bM p c w g) (q.reverse++u::z::post) r):=λu v z=>by
   have:=WH (bM p c w g) (q.reverse++[u]) v z post r ((nn u v).trans ac);grind
  have lq:(RW (y::q):Int)=(RW q:Int)+1:=ac;have hgt:(0:Int)<(RW q:Int)+1:=aa;have em:(RW q:Int)+1-1=RW q:=aa;rw[el,lq];apply aL;simp only[Fs];simp(disch:=omega) [hgt,em,hg,i0,i1,d0,d1];refine cdg (sn ..) c1 rfl ?_;by_cases hz:cf x y<0
  .simp(disch:=omega) [hz,em,hg,i0,i1,d0,d1,ml,s0,s1];rw[Ge _ _ _ (by simp[hL,hr])];have ih:=VL hn (b:=b) h0 r hr K q x (y::post) (λz hz=>hp z ae) hx ae (by grind[inn]);exact ih
  .simp[hz]
   grind[inn]
theorem VM{n:Nat}(hn:n<1000){b:Nat}(h0 r:Hp)(hr:RW h0=RW r+2)(K:KL):∀(post pre:List Ms),(∀y∈pre,P y)->(∀y∈post,P y)->n=RW pre+RW post ->
  K (.exit 0) [] (hL (bM p c w g) (pz cf pre post).reverse r) ->
  lp (Aj DA b (.ref 1 1 0 n n (n*5)) (I 0) (I n) (.fn F.nO [] [.ptr 0 1 0 4])) [] h0 [I (RW pre)] (hL (bM p c w g) (pre.reverse++post) r) K
 | [],pre,hp,hq,en,hK=>by
  have e1:n=RW pre:=by simpa using en
  have PJ:¬((RW pre:Int)<(RW pre:Int)):=aa;apply aL;simp only[Aj];rw[e1];simp[PJ];trivial
 | x::q,pre,hp,hq,en,hK=>by
  have PJ:(RW pre:Int)<(n:Int):=by rw[en];simp;omega
  apply aL;simp only[Aj];simp[PJ];refine VL hc hn _ r aM _ pre x q hp (hq x ac) ae ?_;simp(disch:=omega) [];rw[Ge _ _ _ (by simp[hL,hr])]
  have hi:∀(x:Ms)(a:List Ms),(∀y∈a,P y)->P x->∀y∈inn cf x a,P y:=by
   intro x a
   induction a with
   |nil=>grind[inn]
   | cons z a ih=>
    intro ha hx y hy;unfold inn at hy;split at hy
    .rcases Zy.mp hy with e|hy
     .rw[e];exact ha z ac
     grind
    .rcases Zy.mp hy with e|hy
     .rwa [e]
     grind
  have ih:=VM hn (b:=b) h0 r hr K q (inn cf x pre) (hi x pre hp (hq x ac)) (λy hy=>hq y ae) (by grind[MO]) cU
  simp_all[MO]
def Ae(cf:Ms->Ms->Int)(l:List Ms):List Ms:=(pz cf [] l).reverse
theorem akO{l:List Ms}(hl:RW l<1000)(hp:∀y∈l,P y):
  CI Y F.rX [.ref 1 1 0 (RW l) (RW l) (RW l*5),I 0,I (RW l),.fn F.nO [] [.ptr 0 1 0 4]] (hL (bM p c w g) l r4) (.tup []) (hL (bM p c w g) (Ae cf l) r4):=by
 apply QU;simp only[rX];simp;cases l with
 | nil=>
  apply aL;simp only[Aj];simp;exact⟨rfl,rfl,.inl ⟨rfl,rfl⟩⟩
 | cons x q=>
  refine VM hc hl _ r4 rfl _ q [x] (λy hy=>hp y ae) (λy hy=>hp y ae) ae ?_;simp;exact⟨rfl,rfl,.inl ⟨rfl,rfl⟩⟩
theorem ad9{l:List Ms}(hl:RW l<20)(hp:∀y∈l,P y):
  CI Y F.tP [.ref 1 1 0 (RW l) (RW l) (RW l*5),I (RW l),.fn F.nO [] [.ptr 0 1 0 4]] (hL (bM p c w g) l r2) (.tup []) (hL (bM p c w g) (Ae cf l) r2):=by
 apply QT;have si:=akO hc (g:=g) (c:=c) (w:=w) (l:=l) aa hp;have ea:hL (bM p c w g) l r2++[(0,Bk.none),(0,Bk.none)]=hL (bM p c w g) l r4:=rfl;have h20:¬((20:Int)<=(RW l:Int)):=aa;have h21:¬((20:Int)<(RW l:Int)):=aa;simp only[tP];simp[ea];apply aL
 simp only[Ki];simp[h20];refine ii (gG si ?_ ac);apply aL;simp only[Kh];simp[h21];exact⟨rfl,rfl,.inl ⟨rfl,rfl⟩⟩
theorem aeo{l:List Ms}(hl:RW l<20)(hp:∀y∈l,P y):
  CI Y F.rY [.ref 1 1 0 (RW l) (RW l) (RW l*5),.fn F.nO [] [.ptr 0 1 0 4]] (hL (bM p c w g) l r1) (.tup []) (hL (bM p c w g) (Ae cf l) r1):=by
 apply QV;have si:=ad9 hc (g:=g) (c:=c) (w:=w) hl hp;have ea:hL (bM p c w g) l r1++[(0,Bk.none)]=hL (bM p c w g) l r2:=rfl;have l1:bh (.ref 1 1 0 (RW l) (RW l) (RW l*5))=Wf (I (RW l)):=rfl;simp only[rY];simp[ea,l1];refine ii (gG si ?_ ac)
 exact⟨rfl,rfl,.inl ⟨rfl,rfl⟩⟩
end
def iO(cq:List Q->List Q->Int)(f:Tg->List Q)(l:List Tg):List Ms:=Ae (λx y=>cq y.d x.d) (gP f 0 l)
theorem ug(f:Tg->List Q):∀(l:List Tg)(i:Nat),RW (gP f i l)=RW l
 |[],_=>rfl
 |t::l,i=>by simp[gP,ug f l (i+1)]
theorem G5(f:Tg->List Q):∀(l:List Tg)(i:Nat)(m:Ms),m∈gP f i l->m.t∈l∧m.d=f m.t
 |[],_,m,hm=>by trivial
 | t::l,i,m,hm=>by
  rcases Zy.mp hm with e|h
  .grind
  .have:=G5 f l (i+1) m h
   grind
theorem VO(cf:Ms->Ms->Int)(x:Ms):∀a,(inn cf x a).Perm (x::a)
 |[]=>.refl _
 | y::q=>by
  unfold inn;split
  .exact((VO cf x q).cons y).trans (.swap x y q)
  rfl
theorem Bz(cf:Ms->Ms->Int):∀q a,(pz cf a q).Perm (a++q)
 |[],a=>by simp[pz]
 | x::q,a=>by
  unfold pz;exact(Bz cf q (inn cf x a)).trans (((VO cf x a).append_right q).trans (List.perm_middle.symm))
theorem J5(cf:Ms->Ms->Int)(l:List Ms):(Ae cf l).Perm l:=(List.reverse_perm _).trans (Bz cf l [])
theorem aep:CI Y F.rY [jP,.fn F.nO [] [.ptr 0 1 0 4]] ((1,.vars (bM p c w g))::ah::r1) (.tup []) ((1,.vars (bM p c w g))::ah::r1):=by
 have i1:CI Y F.rX [jP,I 0,I 0,.fn F.nO [] [.ptr 0 1 0 4]] ((1,.vars (bM p c w g))::ah::r4) (.tup []) ((1,.vars (bM p c w g))::ah::r4):=by
  apply QU;simp only[rX];simp;apply aL;simp only[Aj];simp;exact⟨rfl,rfl,.inl ⟨rfl,rfl⟩⟩
 have i2:CI Y F.tP [jP,I 0,.fn F.nO [] [.ptr 0 1 0 4]] ((1,.vars (bM p c w g))::ah::r2) (.tup []) ((1,.vars (bM p c w g))::ah::r2):=by
  apply QT;have ea:(1,Bk.vars (bM p c w g))::(0,Bk.none)::(r2++[(0,Bk.none),(0,Bk.none)])=(1,.vars (bM p c w g))::ah::r4:=rfl;simp only[tP];simp[ea];apply aL;simp only[Ki];simp;refine ii (gG i1 ?_ ac);apply aL
  simp only[Kh];simp;exact⟨rfl,rfl,.inl ⟨rfl,rfl⟩⟩
 apply QV;have ea:(1,Bk.vars (bM p c w g))::(0,Bk.none)::(r1++[(0,Bk.none)])=(1,.vars (bM p c w g))::ah::r2:=rfl;have l1:bh jP=Wf (I 0):=rfl;simp only[rY];simp[ea,l1];refine ii (gG i2 ?_ ac);exact⟨rfl,rfl,.inl ⟨rfl,rfl⟩⟩
theorem QL(ht:nW p c w g){f:Tg->List Q}{cq:List Q->List Q->Int}{l:List Tg}(hl:RW l<20)(hs:∀t∈l,oM t)(hc:mK p l=0)(hd:∀t∈l,nh p c w g f t)
  (hq:∀t∈l,∀u∈l,∃e:Int,Ds F.kr [aj di p,aX (f t),aX (f u)] (.tup [I (cq (f t) (f u)),I e])) :
  Ds F.zf [dj p c w g,dY l] (.tup [qS (iO cq f l),I 0]):=by
 apply an7;have a1:=NX ht aa hs hc hd
 have st:=aeo (P:=λm=>m.t∈l∧m.d=f m.t) (cf:=λx y=>cq y.d x.d) (p:=p) (c:=c) (w:=w) (g:=g) (λx y hx hy=>by
  grind) (l:=gP f 0 l) (by grind[ug]) (G5 f l 0)
 rw[ug]at st
 have l1:bh (aj bX (l.map f))=Wf (I (RW l)):=by
  have:=ajD bX (l.map f)
  rwa [List.length_map]at this
 simp only[zf,dj,bM];simp;refine cd (args:=[dj p c w g,dY l]) a1 ?_ aM;simp[l1]
 have ml:=QE (f:=f) (l:=l) aa (1,.vars (bM p c w g)) ah [(1,.vars (bM p c w g)),ah,ah]
  (aU [(Exit.exit 0,λl8 h=>eQ DA.i h (V.fn F.rY [] []) [ge l8 0,V.fn F.nO [] [V.ptr 0 1 0 4]] 2 λv9 h=>
   out (V.tup [qS (iO cq f l),I 0]) (V.tup [ge l8 0,V.d (D.int iK.i64 0)]) h)]) l [] [] rfl rfl ?_
 .trivial
 by_cases h0:l=[]
 .subst h0;simp;refine ii (gG aep ?_ ac);exact⟨_,rfl⟩
 have h0:0<RW l:=Xn.2 h0;have hz:0<RW (gP f 0 l):=by rw[ug];exact h0
 have eV:CZ ([]++gP f (RW ([]:List Tg)) l)=.ref 1 1 0 (RW l) (RW l) (RW l*5):=by
  have e1:RW ((gP f 0 l).flatMap dP)=RW l*5:=by rw[jB dP yo,ug]
  show tY.v (RW (gP f 0 l)) ((gP f 0 l).flatMap dP)=_
  rw[<-e1,<-ug f l 0];cases hm:RW (gP f 0 l) with
  |zero=>omega
  |succ k=>rfl
 have eB:AG ([]++gP f (RW ([]:List Tg)) l)=(1,hB (gP f 0 l)):=by
  show tY.b (RW (gP f 0 l)) ((gP f 0 l).flatMap dP)=_
  cases hm:RW (gP f 0 l) with
  |zero=>omega
  |succ k=>rfl
 rw[eV,eB];simp;refine ii (gG st ?_ ac);have ln:RW (iO cq f l)=RW l:=(J5 _ _).length_eq.trans (ug f l 0);have fl:=jB dP yo (iO cq f l)
 obtain ⟨h',e5,_⟩:=mO tY (L:=RW l) (cells:=(iO cq f l).flatMap dP) (h:=hL (bM p c w g) (iO cq f l) r1) (by
  have⟨k,hk⟩:∃k,RW l=k+1:=⟨RW l-1,aa⟩;rw[hk];rfl) (by rw[fl,ln];rfl)
 have e6:tY.v (RW l) ((iO cq f l).flatMap dP)=.ref 1 1 0 (RW l) (RW l) (RW l*5):=by
  have⟨k,hk⟩:∃k,RW l=k+1:=⟨RW l-1,aa⟩;have:RW ((iO cq f l).flatMap dP)=RW l*5:=by rw[fl,ln]
  rw[<-this,hk];rfl
 rw[e6]at e5;refine⟨h',?_⟩
 show bQ (hL (bM p c w g) (iO cq f l) r1) (V.tup [V.ref 1 1 0 (RW l) (RW l) (RW l*5),V.d (D.int iK.i64 0)])=_
 simp only[bQ,bY];simp[bQ]at e5;rw[e5,<-ln];rfl
theorem aed{cq:List Q->List Q->Int}{l:List Tg}{m:Ms}(hm:m∈iO cq f l):m.t∈l∧m.d=f m.t:=G5 f l 0 m ((J5 _ _).mem_iff.mp hm)
theorem Fl(cq:List Q->List Q->Int)(f:Tg->List Q)(l:List Tg):RW (iO cq f l)=RW l:=(J5 _ _).length_eq.trans (ug f l 0)
theorem alq(ht:nW p c w g){f:Tg->List Q}{cq:List Q->List Q->Int}{l:List Tg}(hl:RW l<20)(h0:0<RW l)(hs:∀t∈l,oM t)(hc:mK p l=0)(hd:∀t∈l,nh p c w g f t)(hf:∀t∈l,RW (f t)<1000000)
  (hq:∀t∈l,∀u∈l,∃e:Int,Ds F.kr [aj di p,aX (f t),aX (f u)] (.tup [I (cq (f t) (f u)),I e])) {m0:Ms} {l':List Ms} (hm:iO cq f l=m0::l') :
  Ds F.zj [dj p c w g,dY l] (.tup [aX m0.d,aj di (mJ m0.d (iO cq f l)),I 0]):=by
 apply aod;have a1:=QL ht hl hs hc hd hq;have ln:=Fl cq f l
 have ms:∀m∈iO cq f l,RW m.d<1000000:=λm h=>by
  have:=aed h
  grind
 have⟨S,hS⟩:=bD (iO cq f l);rw[<-hS]at a1 hm ln ms ⊢;have l1:bh (qS S)=Wf (I (RW l)):=by rw[<-ln];rfl
 have lz:¬(l=[]):=by rintro rfl;cases h0
 have p3:∀h:Hp,bC h 5 (qS S) (I 0)=Wf (.dptr (S.flatMap dP) 0):=λh=>by rw[hm];exact G3 [] l' m0 h
 have p4:∀h:Hp,ld1 h (.dptr (S.flatMap dP) 3)=Wf (aX m0.d):=λh=>by rw[hm];rfl
 simp only[zj,dj,bM];simp;refine cd (args:=[dj p c w g,dY l]) a1 ?_ aM;simp[l1,lz]
 have ml:=MZ hm aa ms (1,.vars (bM p c w g)) [(1,.vars (bM p c w g)),ah,ah] ⟨_,_,_,rfl⟩ rfl
  (aU [(Exit.exit 0,λl10 h=>bnd (bC h 5 (qS S) (.d (.int .i64 0))) λv11=>bnd (ik 3 v11) λv12=>bnd (ld1 h v12) λv13=>out (.tup [aX m0.d,aj di (mJ m0.d S),I 0]) (.tup [v13,(ge l10 0),(.d (.int .i64 0))]) h)]) S [] [] rfl (Z8 _) ?_
 .rw[ln]at ml;trivial
 simp[p3,p4];have⟨h',e5,_⟩:=mO jA (L:=RW (mJ m0.d S)) (cells:=(mJ m0.d S).map di) (h:=[(1,.vars (bM p c w g)),ah,iS (mJ m0.d S)]) rfl (by simp[jA]);have e6:=z8 m0.d [(1,.vars (bM p c w g)),ah,iS (mJ m0.d S)];have e7:bQ [(1,.vars (bM p c w g)),ah,iS (mJ m0.d S)] (lZ (mJ m0.d S))=Wf (.d (.sl (RW (mJ m0.d S)) ((mJ m0.d S).map di)),h'):=e5
 refine⟨h',?_⟩;simp only[bQ,bY,e6,e7];rfl
theorem Tk{l:List Ms}(hl:RW l<1000)(b0:Nat×Bk)(h0:Hp)(hh:∃u v w,h0=[u,(0,v),w])(hb:offB [1] b0.2=Th)(K:KL):∀(q a:List Ms)(z:aw),l=a++q->RW z=RW a->K (.exit 0) [lZ (z++q.map (·.i))] [b0,ah,iS (z++q.map (·.i))] ->
  lp (IT DA (qS l) (I (RW l))) [1] h0 [lZ z,I (RW a)] [b0,ah,iS z] K
 | [],a,z,e,hz,hK=>by
  simp[Zo]at e;subst e;apply aL;have PJ:¬((RW l:Int)<(RW l:Int)):=aa;simp only[IT];simp[PJ]
  grind
 | m::q,a,z,e,hz,hK=>by
  apply aL;have PJ:((RW a:Int)<(RW l:Int)):=by rw[e];simp;omega
  have DQ:RW a<1000:=aa;have p1:=G3 a q m;have p2:=T5 a q m;rw[<-e]at p1 p2;have ih:=Tk hl b0 h0 hh hb K q (a++[m]) (z++[m.i]) ae ae ae;have⟨Z,hZ⟩:=bD (iS z);have okr:∀r,okV (aj di r)=Th:=λr=>rfl
  have okz:∀s,okV (aX s)=Th:=λr=>rfl
  have rs:∀Y x,dl [1] 0 h0 [b0,(1,x),Y]=[b0,ah,Y]:=λY x=>by
   obtain⟨u,v,w,rfl⟩:=hh;rfl
  have ea:aD bO.add (I (RW a:Int)) (V.d (D.int iK.i64 1))=Wf (I ((RW a:Int)+1)):=by simp(disch:=omega) []
  have e4:((RW (a++[m]):Nat):Int)=(RW a:Int)+1:=ac;have li:∀(i:Int)(h:Hp),cI 1 [.int .i64 0] [(0,I i)] h=Wf ([di i],h):=λi h=>rfl
  have ev:lZ (z++[m.i])=jA.v (RW z+1) (z.map di++[di m.i]):=by simp[lZ]
  have eb:iS (z++[m.i])=jA.b (RW z+1) (z.map di++[di m.i]):=by simp[iS]
  have cl:=DY hb (z++[m.i]) ((RW a:Int)+1) (.vars [aj di m.t.iv,S m.t.num,S m.t.den,aX m.d,I m.i]);rw[ev,eb]at cl;rw[e4,ev,eb]at ih;simp only[IT];rw[<-hZ];simp[j5]at p2;simp[PJ,p1,p2,okr,okz,li];refine kM jA (L:=RW z) (cells:=z.map di) (Nd:=8) (k:=1) (cs:=[di m.i]) aa (by rw[hZ];rfl) (by simp[jA]) rfl rfl ae aa am ?_
  grind[xd,jA]
theorem aoh(ht:nW p c w g){f:Tg->List Q}{cq:List Q->List Q->Int}{l:List Tg}(hl:RW l<20)(hs:∀t∈l,oM t)(hc:mK p l=0)(hd:∀t∈l,nh p c w g f t)
  (hq:∀t∈l,∀u∈l,∃e:Int,Ds F.kr [aj di p,aX (f t),aX (f u)] (.tup [I (cq (f t) (f u)),I e])) :
  Ds F.B4 [dj p c w g,dY l] (.tup [aj di ((iO cq f l).map (·.i)),I 0]):=by
 apply aob;have a1:=QL ht hl hs hc hd hq;have ln:=Fl cq f l;have⟨S,hS⟩:=bD (iO cq f l);rw[<-hS]at a1 ln ⊢;have l1:bh (qS S)=Wf (I (RW l)):=by rw[<-ln];rfl
 have⟨h',e5,_⟩:=mO jA (L:=RW (S.map (·.i))) (cells:=(S.map (·.i)).map di) (h:=[(1,.vars (bM p c w g)),ah,iS (S.map (·.i))]) rfl (by simp[jA]);have e7:bQ [(1,.vars (bM p c w g)),ah,iS (S.map (·.i))] (lZ (S.map (·.i)))=Wf (.d (.sl (RW (S.map (·.i))) ((S.map (·.i)).map di)),h'):=e5;simp only[B4,dj,bM];simp
 refine cd (args:=[dj p c w g,dY l]) a1 ?_ aM;simp[l1]
 have ml:=Tk (l:=S) aa (1,.vars (bM p c w g)) [(1,.vars (bM p c w g)),ah,ah] ⟨_,_,_,rfl⟩ rfl
  (aU [(Exit.exit 0,λl8 h=>out (.tup [aj di (S.map (·.i)),I 0]) (.tup [(ge l8 0),(.d (.int .i64 0))]) h)]) S [] [] rfl rfl ?_
 .rw[ln]at ml;trivial
 simp;refine⟨h',?_⟩;simp only[bQ,bY,e7];rfl
variable{p:aw}{c w:Mz}{g:List (List Q)}{p':aw}{c' w':Mz}{g':List (List Q)}
variable{x0 x1 x3:Nat×Bk}{e:Nat}
variable{p:aw}{c w:Mz}
variable{l:Int->Nat}{N:Nat}
variable{a:Ad}
variable{a:Ad}{h:Hp}
section
variable{p:aw}{b:Nat}
variable{B:Nat}{owns:List cN}{steps:List (List cN)}
end
variable{a:Ad}
section
variable{p:aw}{b B:Nat}{owns:List cN}{steps:List (List cN)}
end
variable{g:FuncId}{cs:bq}{cf:List Q->List Q->Int}
variable{p:aw}{c w:Mz}
def wd(s:List Q):Bool:=s.all λx=>decide (0<x.2)&&(Nat.gcd x.1.natAbs x.2 == 1)&&decide (ay x.1.natAbs<=30)&&decide (ay x.2<=30)
theorem vZ(h:wd s=Th):jq s:=λx hx=>by
 have:=Zz.1 h x hx;simp[Z7,dT,beq_iff_eq]at this;exact⟨⟨this.1.1.1,this.1.1.2⟩,this.1.2,this.2⟩
def Ha(l:aw):Bool:=l.all λz=>decide (-1000000000<=z)&&decide (z<=1000000000)
theorem LZ{l:aw}(h:Ha l=Th):lG l:=λz hz=>by
 have:=Zz.1 h z hz
 grind
def uj(n:Nat)(m:Mz):Bool:=decide (0<n)&&decide (n<=12)&&decide (RW m<=12)&&m.all λr=>decide (RW r=n)&&Ha r
theorem Um(h:uj n m=Th):jG n m:=by simp[uj,Z7,dT,Zz]at h;exact⟨h.1.1.1,h.1.1.2,h.1.2,λr hr=>(h.2 r hr).1,λr hr=>LZ (h.2 r hr).2⟩
def p5:aw:=[2,3,5]
def qf:Mz:=[[4,-4,1]]
def ou:Mz:=[[1,0,-4],[0,1,4]]
theorem LU:rJ p5 qf ou where
 pr:=by rfl
 lc:=Um aM
 lw:=Um aM
 ch:=by rfl
 k1:=⟨20,100,am,aM,aM⟩
theorem Dx(a b c:Int)(h:Hp):cI 3 [.int .i64 0] [(0,.d (.int .i64 a)),(1,.d (.int .i64 b)),(2,.d (.int .i64 c))] h=Wf ([.int .i64 a,.int .i64 b,.int .i64 c],h):=by rfl
theorem Dc{n d:Int}(hd:d≠0)(h1 : -9223372036854775808<n)(h2:n<9223372036854775808)(h3 : -9223372036854775808<d)(h4:d<9223372036854775808):Ds F.jM [I n,I d] (.agg (qT (ju n d))):=by apply agc;have fo:=M7 hd h1 h2 h3 h4;simp[qT]at fo;simp only[jM];simp;refine cd fo ?_;simp;exact nD rfl rfl
def pn:List (List Q):=[[(1,1),(0,1),(0,1)],[(1,1),(0,1),(1,4)]]
theorem G2:nW p5 qf ou pn where
 tp:=LU
 gl:=am
 gs:=λs hs=>by
  have:=Zz.1 (show(pn.all λs=>decide (RW s=RW p5)&&wd s)=Th by decide+kernel) s hs
  grind[vZ]
def kZ(s:List Q):Int:=if tq p5 s=[]then 0 else mA (tq p5 s)
def DI(s:List Q):Bool:=decide (RW (tq p5 s)<=600∧∀t∈tq p5 s,2<=t.1∧t.1<1000000∧t.2.natAbs<9223372036854775808)&&decide (tq p5 s≠[]->mA (tq p5 s)≠0)
theorem Vp(h:DI s=Th):Ax p5 s (kZ s):=by simp only[DI,Z7,dT]at h;exact λd=>afU h.1 h.2
def Cq(t:Tg):Q:=(jY t.num t.den).getD (0,1)
def wP(t:Tg):List Q:=mb p5 ou pn t.iv
def EA(t:Tg):List Q:=Ez p5 (wP t) (kZ (wP t))
def gn(t:Tg):List Q:=gA (RW p5) [EA t] [Cq t]
def ul(s:List Q):Bool:=decide (RW s=RW p5)
def Oh(t:Tg):Bool:=decide (RW t.iv=RW p5)&&oe t.iv&&Ha t.iv&&decide (kt t.iv=0)&&Ha (dO ou t.iv)
def Og(t:Tg):Bool:=wd (wP t)&&ul (wP t)&&DI (wP t)&&wd (EA t)&&ul (EA t)&&wd (gn t)&&ul (gn t)&&decide (-1<=kZ (wP t)∧kZ (wP t)<=1)
def Of(t:Tg):Bool:=decide (jY t.num t.den=Wf (Cq t))&&wd [Cq t]
theorem amZ(c1:Oh t=Th)(c2:Og t=Th)(c3:Of t=Th):nh p5 qf ou pn gn t:=by
 simp[Oh,Z7,dT]at c1;simp[Og,ul,Z7,dT]at c2;simp[Of,Z7,dT]at c3;have⟨⟨⟨⟨a1,a2⟩,a3⟩,a4⟩,a5⟩:=c1;have⟨⟨⟨⟨⟨⟨⟨b1,b2⟩,b3⟩,b4⟩,b5⟩,b6⟩,b7⟩,b8⟩:=c2;have pc:ef p5=0:=LU.pr
 refine⟨wP t,EA t,PK G2 am ⟨a1,a2,LZ a3,a4,LZ a5⟩ (vZ b1),abw pc am b2 (vZ b1) (Vp b3) b8.1 b8.2,?_⟩;have sc:=Rj (p:=p5) (s:=EA t) (k:=Cq t) pc am b5 (vZ b4) (vZ c3.2 (Cq t) ac) (vZ b6);have⟨e1,e2⟩:=JO c3.1;simp[qT]at sc;rw[<-e1,<-e2]at sc;exact sc
def lW:Tg:=⟨[-1,1,0],[49],[49]⟩
def Bu:Tg:=⟨[1,1,-1],[50],[49]⟩
def DJ:Tg:=⟨[-2,0,1],[49],[49]⟩
def ia:List Tg:=[lW,Bu,DJ]
theorem MF:∀t∈ia,nh p5 qf ou pn gn t:=λt ht=>by
 have:=Zz.1 (show(ia.all λt=>Oh t&&Og t&&Of t)=Th by decide+kernel) t ht
 grind[amZ]
theorem ME:∀t∈ia,oM t:=λt ht=>by
 simp[ia,Zy,Y4,or_false]at ht;rcases ht with rfl|rfl|rfl<;>exact⟨am,am,am⟩
theorem akB{s:Tg}(hs:s∈ia)(ht:t∈ia)(h:kZ (kC p5 (gn s) (gn t))=z)(hq:DI (kC p5 (gn s) (gn t))=Th):Ds F.kr [aj di p5,aX (gn s),aX (gn t)] (.tup [I z,I 0]):=by
 have key:∀t∈ia,ul (gn t)=Th∧wd (gn t)=Th:=λt ht=>by
  have:=Zz.1 (show(ia.all λt=>ul (gn t)&&wd (gn t))=Th by decide+kernel) t ht
  grind
 have⟨a1,a2⟩:=key s hs;have⟨b1,b2⟩:=key t ht;simp[ul,dT]at a1 b1;have c:=Vp hq;rw[h]at c;exact abF LU.pr am a1 b1 (vZ a2) (vZ b2) c
theorem VA:∀t∈ia,RW (gn t)<1000000:=λt ht=>by
 have:=Zz.1 (show(ia.all λt=>ul (gn t))=Th by rfl) t ht;simp[ul,dT]at this;rw[this];decide
theorem kOf:Ds F.zh [dj p5 qf ou pn,.agg [aj di lW.iv,S lW.num,S lW.den]] (.tup [aX [(-1,1),(1,1),(-1,4)],I 0]):=by have:=aoi G2 (f:=gn) (t:=lW) (ME _ (by simp[ia])) aM (MF _ (by simp[ia]));trivial
theorem akA:Ds F.zj [dj p5 qf ou pn,dY ia] (.tup [aX [(-2,1),(2,1),(-1,2)],aj di [1],I 0]):=by
 have cq:∀t∈ia,∀u∈ia,∃e:Int,Ds F.kr [aj di p5,aX (gn t),aX (gn u)] (.tup [I (kZ (kC p5 (gn t) (gn u))),I e]):=λt ht u hu=>
  ⟨0,akB ht hu rfl (Zz.1 (Zz.1 (show(ia.all λt=>ia.all λu=>DI (kC p5 (gn t) (gn u)))=Th by rfl) t ht) u hu)⟩
 have es:iO (λa b=>kZ (kC p5 a b)) gn ia=[⟨Bu,gn Bu,1⟩,⟨lW,gn lW,0⟩,⟨DJ,gn DJ,2⟩]:=aJ;have:=alq G2 (l:=ia) (cq:=λa b=>kZ (kC p5 a b)) am am ME aM MF VA cq es;have e1:mJ (gn Bu) [⟨Bu,gn Bu,1⟩,⟨lW,gn lW,0⟩,⟨DJ,gn DJ,2⟩]=[1]:=dw;trivial
theorem akz:Ds F.w6 [dj p5 qf ou pn,dY ia] (.tup [aj di [2],I 0]):=by
 have:=ZU G2 (f:=gn) (l:=ia) am ME aM MF VA
 rwa [show jZ 0 (ia.map gn)=[2] by decide+kernel]at this
theorem UZ(a b c:Q)(h:Hp):cI 3 [D.str [],D.str []] [(0,.agg (qT a)),(1,.agg (qT b)),(2,.agg (qT c))] h=Wf (fP [a,b,c],h):=rfl
theorem aiS:Ds F.vK [] (dj p5 qf ou pn):=by
 apply agf;have q0:=Dc (n:=0) (d:=1) am am am am am;have q1:=Dc (n:=1) (d:=1) am am am am am;have q2:=Dc (n:=1) (d:=4) am am am am am;rw[show ju 0 1=(0,1) by rfl]at q0;rw[show ju 1 1=(1,1) by rfl]at q1
 rw[show ju 1 4=(1,4) by rfl]at q2;have l3:=λh=>UZ (1,1) (0,1) (0,1) h
 have l4:=λh=>UZ (1,1) (0,1) (1,4) h
 simp[qT]at q0 q1 q2 l3 l4;simp only[vK];simp;refine cd q0 ?_;simp;refine cd q1 ?_;simp[Dx,uk,Hh,l3,l4];refine cds q2 ?_;simp[Dx,uk,Hh,l3,l4];exact⟨_,rfl⟩
theorem Db{n d:Int}{a b:bA}(hd:d≠0)(h1 : -9223372036854775808<n)(h2:n<9223372036854775808)(h3 : -9223372036854775808<d)(h4:d<9223372036854775808)(ha:itoa (ju n d).1=a)(hb:aA (ju n d).2=b):Ds F.jM [I n,I d] (.agg [S a,S b]):=by grind[Dc,qT]
theorem Vs:Ds F.vL [] (B Th):=by
 apply agi;have q1:Ds F.jM [I 1,I 1] (.agg [S [49],S [49]]):=Db am am am am am dw dw;have q2:Ds F.jM [I 2,I 1] (.agg [S [50],S [49]]):=Db am am am am am dw dw
 have q3:Ds F.jM [I (-1),I 1] (.agg [S [45,49],S [49]]):=Db am am am am am dw dw;have q4:Ds F.jM [I (-1),I 4] (.agg [S [45,49],S [52]]):=Db am am am am am dw dw
 have q5:Ds F.jM [I (-2),I 1] (.agg [S [45,50],S [49]]):=Db am am am am am dw dw;have mt:=aiS;have c1:=kOf;have c2:=akA;have c3:=akz;have tv:dj p5 qf ou pn=.agg [aj di p5,bf qf,bf ou,aj bX pn]:=rfl;have i1:itoa (-1)=[45,49]:=dw;have i2:itoa 1=[49]:=dw
 have i3:itoa (-2)=[45,50]:=dw;have n1:aA 1=[49]:=dw;have n4:aA 4=[52]:=dw;have x0:∀h:Hp,bC h 2 (aX [(-1,1),(1,1),(-1,4)]) (I 0)=Wf (.dptr (fP [(-1,1),(1,1),(-1,4)]) 0):=λh=>rfl
 have x1:∀h:Hp,bC h 2 (aX [(-1,1),(1,1),(-1,4)]) (I 1)=Wf (.dptr (fP [(-1,1),(1,1),(-1,4)]) 2):=λh=>rfl
 have x2:∀h:Hp,bC h 2 (aX [(-1,1),(1,1),(-1,4)]) (I 2)=Wf (.dptr (fP [(-1,1),(1,1),(-1,4)]) 4):=λh=>rfl
 have y0:∀h:Hp,aG h 2 (.dptr (fP [(-1,1),(1,1),(-1,4)]) 0)=Wf (.agg [S [45,49],S [49]]):=λh=>by rw[<-i1,<-n1];rfl
 have y1:∀h:Hp,aG h 2 (.dptr (fP [(-1,1),(1,1),(-1,4)]) 2)=Wf (.agg [S [49],S [49]]):=λh=>by
  have:aG h 2 (.dptr (fP [(-1,1),(1,1),(-1,4)]) 2)=Wf (.agg [S (itoa 1),S (aA 1)]):=rfl
  grind
 have y2:∀h:Hp,aG h 2 (.dptr (fP [(-1,1),(1,1),(-1,4)]) 4)=Wf (.agg [S [45,49],S [52]]):=λh=>by rw[<-i1,<-n4];rfl
 have x3:∀h:Hp,bC h 2 (aX [(-2,1),(2,1),(-1,2)]) (I 0)=Wf (.dptr (fP [(-2,1),(2,1),(-1,2)]) 0):=λh=>rfl
 have y3:∀h:Hp,aG h 2 (.dptr (fP [(-2,1),(2,1),(-1,2)]) 0)=Wf (.agg [S [45,50],S [49]]):=λh=>by rw[<-i3,<-n1];rfl
 have z1:bh (aX [(-1,1),(1,1),(-1,4)])=Wf (I 3):=rfl;have z2:bh (aX [(-2,1),(2,1),(-1,2)])=Wf (I 3):=rfl;have be:∀a b:bA,pJ [.str [],.str []] .eql (.agg [S a,S b]) (.agg [S a,S b])=Wf (B Th):=λa b=>by simp[apF]
 generalize hA:aX [(-1,1),(1,1),(-1,4)]=A at *;generalize hB:aX [(-2,1),(2,1),(-1,2)]=B' at *;generalize fP [(-1,1),(1,1),(-1,4)]=PA at *;generalize fP [(-2,1),(2,1),(-1,2)]=PB at *
 have lt:∀h:Hp,cI 3 [aW,.str [],.str []] [(0,.agg [.d (.sl 3 [.int .i64 (-1),.int .i64 1,.int .i64 0]),S [49],S [49]]),(1,.agg [.d (.sl 3 [.int .i64 1,.int .i64 1,.int .i64 (-1)]),S [50],S [49]]),(2,.agg [.d (.sl 3 [.int .i64 (-2),.int .i64 0,.int .i64 1]),S [49],S [49]])] h=Wf (ia.flatMap fx,h):=λh=>rfl
 have t0:∀h:Hp,bC h 3 (.d (.sl 3 (ia.flatMap fx))) (I 0)=Wf (.dptr (ia.flatMap fx) 0):=λh=>rfl
 have t1:∀h:Hp,aG h 3 (.dptr (ia.flatMap fx) 0)=Wf (.agg [aj di lW.iv,S lW.num,S lW.den]):=λh=>rfl
 have tg:V.d (.sl 3 (ia.flatMap fx))=dY ia:=rfl;simp only[vL];simp[Dx];refine cd q1 ?_;simp[Dx];refine cd q2 ?_;simp[Dx];refine cd q1 ?_;simp[lt];refine cd mt ?_;simp[t0,t1];have st:∀h:Hp,bQ h (dj p5 qf ou pn)=Wf (dj p5 qf ou pn,h):=λh=>rfl
 have sT:∀h:Hp,bQ h (.d (.sl 3 (ia.flatMap fx)))=Wf (dY ia,h):=λh=>rfl
 have sK:∀h:Hp,bQ h (.agg [aj di lW.iv,S lW.num,S lW.den])=Wf (.agg [aj di lW.iv,S lW.num,S lW.den],h):=λh=>rfl
 have w0:∀h:Hp,bC h 1 (aj di [1]) (I 0)=Wf (.dptr ([1].map di) 0):=λh=>rfl
 have w1:∀h:Hp,ld1 h (.dptr (([1]:aw).map di) 0)=Wf (I 1):=λh=>rfl
 have w2:∀h:Hp,bC h 1 (aj di [2]) (I 0)=Wf (.dptr ([2].map di) 0):=λh=>rfl
 have w3:∀h:Hp,ld1 h (.dptr (([2]:aw).map di) 0)=Wf (I 2):=λh=>rfl
 have w4:bh (aj di [1])=Wf (I 1):=rfl;have w5:bh (aj di [2])=Wf (I 1):=rfl;refine rF aM c1 ?_;simp;refine cd mt ?_;simp;refine rF aM c2 ?_;simp;refine cd mt ?_;simp;refine rF aM c3 ?_;simp[z1,x0,y0];refine cd q3 ?_;simp[be,x1,y1];refine cd q1 ?_;simp[be,x2,y2];refine cd q4 ?_;simp[be,z2,x3,y3];refine cd q5 ?_;simp[be,w0,w1,w2,w3,w4,w5]
variable{p:aw}{c w w':Mz}{e:Int}
abbrev Ve:=Nat->Int
variable{v u:Ve}
def gr:aw->List Ve->Ve
 |k::ks,h::hs=>λi=>k*h i+gr ks hs i
 |_,_=>λ_=>0
def bV(m:List Ve)(v:Ve):Prop:=∃ks,v=gr ks m
def Cd:aw->aw->aw
 |k::ks,k'::ks'=>(k+k')::Cd ks ks'
 |[],l=>l
 |l,[]=>l
theorem zn(m:List Ve):gr [] m=λ_=>0:=by cases m<;>rfl
theorem aat:∀(ks ks':aw)(m:List Ve)(i:Nat),gr (Cd ks ks') m i=gr ks m i+gr ks' m i
 |_,_,[],i=>by cases ‹aw› <;>simp[gr]
 |[],l,h::m,i=>by simp[Cd,zn]
 |k::ks,[],h::m,i=>by simp[Cd,zn]
 | k::ks,k'::ks',h::m,i=>by
  simp only[Cd,gr,aat ks ks' m i]
  grind
theorem aas(c:Int):∀(ks:aw)(m:List Ve)(i:Nat),gr (ks.map (c * ·)) m i=c*gr ks m i
 |[],m,i=>by simp[zn]
 |k::ks,[],i=>by simp[gr]
 | k::ks,h::m,i=>by
  simp only[Zv,gr,aas c ks m i]
  grind
theorem bV.zero(m:List Ve):bV m λ_=>0:=⟨[],(zn m).symm⟩
theorem bV.add{m:List Ve}(hu:bV m u)(hv:bV m v):bV m λi=>u i+v i:=by obtain⟨a,rfl⟩:=hu;obtain⟨b,rfl⟩:=hv;exact⟨Cd a b,funext λi=>(aat a b m i).symm⟩
theorem bV.mul{m:List Ve}(c:Int)(hu:bV m u):bV m λi=>c*u i:=by obtain⟨a,rfl⟩:=hu;exact⟨a.map (c * ·),funext λi=>(aas c a m i).symm⟩
theorem bV.sub{m:List Ve}(hu:bV m u)(hv:bV m v):bV m λi=>u i-v i:=by
 have:=hu.add (hv.mul (-1))
 grind
theorem bV.mem:∀{m:List Ve}{h:Ve},h∈m->bV m h
 | g::m,h,hm=>by
  rcases Zy.1 hm with rfl|hm
  .exact⟨[1],funext λi=>by simp[gr,zn]⟩
  .have⟨ks,e⟩:=bV.mem hm;exact⟨0::ks,funext λi=>by grind[gr]⟩
theorem bV.le:∀{m m':List Ve},(∀h∈m,bV m' h)->∀{v},bV m v->bV m' v:=λ{m m'} hm {v} hv=>by
 obtain⟨ks,rfl⟩:=hv
 induction m generalizing ks with
 |nil=>cases ks<;>exact bV.zero m'
 | cons h m ih=>
  cases ks with
  |nil=>simp[zn,zero]
  |cons k ks=>exact((hm h ac).mul k).add (ih (λg hg=>hm g ae) ks)
def fV:Nat->List (Nat×Ve)->Prop
 |_,[]=>True
 |o,(l,h)::m=>(o<=l∧0<h l∧∀j,j<l->h j=0)∧(∀x∈m,0<=h x.1∧h x.1<x.2 x.1)∧fV (l+1) m
def vs(m:List (Nat×Ve)):List Ve:=m.map (·.2)
theorem ak7(h:o'<=o):∀{m:List (Nat×Ve)},fV o m->fV o' m
 |[],_=>trivial
 |(l,g)::m,⟨⟨a,b⟩,c⟩=>⟨⟨aa,b⟩,c⟩
theorem uz:∀{m:List (Nat×Ve)}{o:Nat},fV o m->∀{v},bV (vs m) v->∀j,j<o->v j=0
 |[],o,_,v,⟨ks,e⟩,j,hj=>by subst e;cases ks<;>rfl
 | (l,h)::m,o,⟨⟨a,b,c⟩,d,r⟩,v,⟨ks,e⟩,j,hj=>by
  subst e;cases ks with
  |nil=>rfl
  | cons k ks=>
   have h2:=uz r ⟨ks,rfl⟩ j aa
   grind[vs,gr]
theorem wJ:∀{m:List (Nat×Ve)}{o:Nat},fV o m->∀{v},bV (vs m) v->(∀j,v j=0)∨∃x∈m,(∀j,j<x.1->v j=0)∧v x.1≠0∧x.2 x.1∣v x.1
 |[],o,_,v,⟨ks,e⟩=>.inl λj=>by subst e;cases ks<;>rfl
 | (l,h)::m,o,⟨⟨a,b,c⟩,d,r⟩,v,⟨ks,e⟩=>by
  subst e;cases ks with
  |nil=>exact .inl λj=>rfl
  | cons k ks=>
   have h2:=λj hj=>uz r (v:=gr ks (vs m)) ⟨ks,rfl⟩ j hj
   by_cases hk:k=0
   .subst hk;have e:gr (0::ks) (vs ((l,h)::m))=gr ks (vs m):=funext λi=>by simp[vs,gr]
    rw[e];rcases wJ r (v:=gr ks (vs m)) ⟨ks,rfl⟩with z|⟨x,hx,p⟩
    .grind
    grind
   .refine .inr ⟨(l,h),ac,λj hj=>?_,?_,?_⟩
    .show k*h j+gr ks (vs m) j=0
     rw[c j hj,h2 j aa];simp
    .show k*h l+gr ks (vs m) l≠0
     rw[h2 l aa,Int.add_zero];exact Wt hk aa
    grind[gr,vs,Int.dvd_mul_left]
theorem HX{l:Nat}{h:Ve}{m:List (Nat×Ve)}{o:Nat}(H:fV o ((l,h)::m)){v:Ve}(hv:bV (vs ((l,h)::m)) v)(h0:v l=0):bV (vs m) v:=by
 have⟨⟨a,b,c⟩,d,r⟩:=H;obtain⟨ks,rfl⟩:=hv;cases ks with
 |nil=>exact bV.zero _
 | cons k ks=>
  have h2:=uz r (v:=gr ks (vs m)) ⟨ks,rfl⟩ l aa;have h3:k*h l+gr ks (vs m) l=0:=h0;rw[h2,Int.add_zero]at h3
  have hk:k=0:=by
   rcases Int.mul_eq_zero.1 h3 with h|h
   .exact h
   .omega
  subst hk;exact⟨ks,funext λi=>by simp[vs,gr]⟩
theorem yU:∀{m:List (Nat×Ve)}{o:Nat},fV o m->∀x∈m,o<=x.1
 | (l,h)::m,o,⟨⟨a,b⟩,d,r⟩,x,hx=>by
  rcases Zy.1 hx with rfl|hx
  .exact a
  .have:=yU r x hx;omega
theorem VZ{l l':Nat}{h h':Ve}{m m':List (Nat×Ve)}{o o':Nat}(H:fV o ((l,h)::m))(H':fV o' ((l',h')::m'))(e:bV (vs ((l',h')::m')) h):l'<=l∧(l=l'->h' l∣h l):=by
 have⟨⟨a,b,c⟩,d,r⟩:=H;rcases wJ H' e with z|⟨x,hx,p1,p2,p3⟩
 .exact absurd (z l) aa
 ·have e1:x.1=l:=by
   rcases Nat.lt_trichotomy x.1 l with g|g|g
   .grind
   .exact g
   .grind
  have ge:=yU H' x hx;have⟨⟨a',b',c'⟩,d',r'⟩:=H'
  have hg:l'<=x.1:=by
   rcases Zy.1 hx with rfl|hx
   .omega
   .have:=yU r' x hx;omega
  refine⟨aa,λel=>?_⟩;rcases Zy.1 hx with rfl|hx
  .grind
  grind[yU]
theorem VX:∀{m m':List (Nat×Ve)}{o:Nat},fV o m->fV o m'->(∀v,bV (vs m) v↔bV (vs m') v)->m=m'
 |[],[],_,_,_,_=>rfl
 | [],(l,h)::m',o,H,H',e=>by
  have h1:=(e h).2 (bV.mem (by simp[vs]));rcases wJ H h1 with z|⟨x,hx,_⟩
  .have:=H'.1.2.1;grind
  trivial
 | (l,h)::m,[],o,H,H',e=>by
  have h1:=(e h).1 (bV.mem (by simp[vs]));rcases wJ H' h1 with z|⟨x,hx,_⟩
  .have:=H.1.2.1;grind
  trivial
 | (l,h)::m,(l',h')::m',o,H,H',e=>by
  have a1:=VZ H H' ((e h).1 (bV.mem (by simp[vs])));have a2:=VZ H' H ((e h').2 (bV.mem (by simp[vs])));obtain rfl:l=l':=aa;have d1:=a1.2 rfl;have d2:=a2.2 rfl;have p1:=H.1.2.1;have p2:=H'.1.2.1;have el:h l=h' l:=Int.le_antisymm (Int.le_of_dvd p2 d2) (Int.le_of_dvd p1 d1)
  have te:∀v,bV (vs m) v↔bV (vs m') v:=λv=>by
   constructor
   .intro hv;have z:v l=0:=uz H.2.2 hv l aa
    grind[HX,bV.le,bV.mem,vs]
   .intro hv;have z:v l=0:=uz H'.2.2 hv l aa
    grind[HX,bV.le,bV.mem,vs]
  obtain rfl:=VX H.2.2 H'.2.2 te;have hu:bV (vs ((l,h)::m)) λi=>h i-h' i:=bV.sub (bV.mem (by simp[vs])) ((e h').2 (bV.mem (by simp[vs])))
  have hu2:=HX H hu aa
  have eh:h=h':=by
   rcases wJ H.2.2 hu2 with z|⟨x,hx,q1,q2,q3⟩
   .grind
   .have b1:=H.2.1 x hx;have b2:=H'.2.1 x hx;exact absurd (Int.eq_zero_of_dvd_of_natAbs_lt_natAbs q3 aa) q2
  rw[eh]
abbrev eZ(m:Mz)(i j:Nat):Int:=nth 0 (nth [] m i) j
def ve(r:aw):Ve:=λi=>nth 0 r i
def Ln(n:Nat)(m:Mz):Prop:=∀i,i<RW m->RW (nth [] m i)=n
def ja(c o:Nat)(m:Mz)(i:Nat):Mz:=gy [] (λr=>r) (λ_ r=>r) c o m i
theorem A0(d:α)(l:List α)(i j:Nat)(x:α)(h:i<RW l):nth d (l.set i x) j=if j=i then x else nth d l j:=by
 simp only[nth,Z6,List.getElem?_set];by_cases e:i=j
 .grind
 .rw[iN e,iN (λg=>e g.symm)]
theorem ain(k:Int):∀(a b:aw)(j:Nat),RW a=RW b->nth 0 (jm k a b) j=nth 0 a j-k*nth 0 b j
 |[],[],j,_=>by simp[jm,nth]
 |x::a,y::b,0,_=>by rfl
 | x::a,y::b,j+1,h=>by
  grind[jm,nth]
 |[],_::_,_,h=>by simp at h
 |_::_,[],_,h=>by simp at h
theorem YJ{c:Nat}(hl:Ln n m)(hi:i<RW m)(ho:o<RW m)(k j:Nat):eZ (ja c o m i) k j=if k=i then eZ m i j-(eZ m i c).fdiv (eZ m o c)*eZ m o j else eZ m k j:=by
 unfold eZ ja gy;rw[A0 _ _ _ _ _ hi];split
 .rename_i h;rw[ain _ _ _ _ ((hl i hi).trans (hl o ho).symm)];rfl
 .rfl
theorem ajo(hl:Ln n m){x:aw}(hx:RW x=n):Ln n (m.set i x):=λj hj=>by
 rw[Yu]at hj;by_cases h:i<RW m
 .rw[A0 _ _ _ _ _ h];split
  .exact hx
  .exact hl j hj
 .rw[List.set_eq_of_length_le aa];exact hl j hj
theorem qF(c o:Nat)(m:Mz)(i:Nat):RW (ja c o m i)=RW m:=rU c o m i
theorem L3{c:Nat}(hl:Ln n m)(hi:i<RW m)(ho:o<RW m):Ln n (ja c o m i):=
 ajo hl (by simp[jm,hl i hi,hl o ho])
def eT(m:Mz)(v:Ve):Prop:=bV (m.map ve) v
theorem ko(hi:i<RW m):eT m (ve (nth [] m i)):=bV.mem (Zw.2 ⟨_,by rw[nth,Z6,List.getElem?_eq_getElem hi];simp,rfl⟩)
theorem Af(h:∀i,i<RW m->eT m' (ve (nth [] m i)))(hv:eT m v):eT m' v:=by
 refine bV.le (λg hg=>?_) hv;obtain⟨r,hr,rfl⟩:=Zw.1 hg;obtain⟨i,hi,rfl⟩:=Zj.1 hr;have:=h i hi
 rwa [nth,Z6,List.getElem?_eq_getElem hi]at this
def iD(m m':Mz):Prop:=∀v,eT m v↔eT m' v
theorem Ps{c:Nat}(hl:Ln n m)(hi:i<RW m)(ho:o<RW m):ve (nth [] (ja c o m i) i)=λj=>ve (nth [] m i) j-(eZ m i c).fdiv (eZ m o c)*ve (nth [] m o) j:=funext λj=>by
 have:=YJ (c:=c) hl hi ho i j;rw[ip rfl]at this;exact this
theorem sH{c:Nat}(hi:i<RW m){k:Nat}(h:k≠i):nth [] (ja c o m i) k=nth [] m k:=by grind[ja,gy,A0]
theorem ael{c:Nat}(hl:Ln n m)(hi:i<RW m)(ho:o<RW m)(MT:i≠o):iD m (ja c o m i):=λv=>by
 have DE:i<RW (ja c o m i):=by rw[qF];exact hi
 have ho':o<RW (ja c o m i):=by rw[qF];exact ho
 have eo:nth [] (ja c o m i) o=nth [] m o:=sH hi (λh=>MT h.symm);constructor
 .refine Af λk hk=>?_
  by_cases h:k=i
  .subst h;have a:=(ko DE).add ((ko ho').mul ((eZ m k c).fdiv (eZ m o c)))
   have e:(λj=>ve (nth [] (ja c o m k) k) j+(eZ m k c).fdiv (eZ m o c)*ve (nth [] (ja c o m k) o) j)=ve (nth [] m k):=funext λj=>by
    grind[Ps]
   rw[e]at a;exact a
  .rw[<-sH (c:=c) (o:=o) hi h]
   grind[ko,qF]
 .refine Af λk hk=>?_
  rw[qF]at hk;by_cases h:k=i
  .subst h;rw[Ps hl hi ho];exact(ko hi).sub ((ko ho).mul _)
  grind[sH,ko]
theorem iD.refl(m:Mz):iD m m:=λv=>Iff.rfl
theorem iD.trans{a b c:Mz}(h:iD a b)(h':iD b c):iD a c:=λv=>(h v).trans (h' v)
def lO(m:Mz)(i j:Nat):Mz:=iG [] m i j
theorem tJ(hi:i<RW m)(hj:j<RW m)(k:Nat):nth [] (lO m i j) k=if k=j then nth [] m i else if k=i then nth [] m j else nth [] m k:=by
 unfold lO iG;rw[A0 _ _ _ _ _ ae];split
 .rfl
 .rw[A0 _ _ _ _ _ hi]
theorem vh(m:Mz)(i j:Nat):RW (lO m i j)=RW m:=nu m i j
theorem L4(hl:Ln n m)(hi:i<RW m)(hj:j<RW m):Ln n (lO m i j):=λk hk=>by
 rw[vh]at hk;rw[tJ hi hj];split
 .exact hl i hi
 .split
  .exact hl j hj
  .exact hl k hk
theorem aem(hi:i<RW m)(hj:j<RW m):iD m (lO m i j):=λv=>by
 have DE:i<RW (lO m i j):=by rw[vh];exact hi
 have hj':j<RW (lO m i j):=by rw[vh];exact hj
 constructor
 .refine Af λk hk=>?_
  by_cases h1:k=i
  .subst h1;have:=ko hj'
   grind[tJ]
  .by_cases h2:k=j
   .subst h2;have:=ko DE
    grind[tJ]
   .have:=ko (m:=lO m i j) (i:=k) (by grind[vh])
    grind[tJ]
 grind[Af,vh,tJ,ko]
def lS(c o:Nat)(m:Mz):Mz:=pi [] (λr=>r) (λ_ r=>r) c o m
theorem GQ(a:aw)(j:Nat):nth 0 (a.map (- ·)) j = - nth 0 a j:=by grind[nth]
theorem wj{c:Nat}(ho:o<RW m)(k:Nat):nth [] (lS c o m) k=if k=o∧eZ m o c<0 then(nth [] m o).map (- ·)else nth [] m k:=by
 show nth [] (if eZ m o c<0 then m.set o ((nth [] m o).map (- ·))else m) k=_
 by_cases h:eZ m o c<0
 .rw[ip h,A0 _ _ _ _ _ ho];by_cases hk:k=o
  .rw[ip hk,ip ⟨hk,h⟩]
  .rw[iN hk,iN (λg=>hk g.1)]
 .rw[iN h,iN (λg=>h g.2)]
theorem Ba(c o:Nat)(m:Mz):RW (lS c o m)=RW m:=LM c o m
theorem UG{c:Nat}(hl:Ln n m)(ho:o<RW m):Ln n (lS c o m):=λk hk=>by
 rw[Ba]at hk;rw[wj ho];split
 .rw[List.length_map];exact hl o ho
 .exact hl k hk
theorem Pv(a:aw):ve (a.map (- ·))=λi=>-1*ve a i:=funext λj=>by
 show nth 0 (a.map (- ·)) j = -1*nth 0 a j
 simp[GQ]
theorem aen{c:Nat}(ho:o<RW m):iD m (lS c o m):=λv=>by
 have ho':o<RW (lS c o m):=by rw[Ba];exact ho
 constructor
 .refine Af λk hk=>?_
  by_cases h:k=o∧eZ m o c<0
  .have:=(ko ho').mul (-1);rw[wj ho,ip ⟨rfl,h.2⟩,Pv]at this;obtain⟨rfl,_⟩:=h;have e:(λi=>-1*(-1*ve (nth [] m k) i))=ve (nth [] m k):=funext λi=>by omega
   rw[e]at this;exact this
  .have:=ko (m:=lS c o m) (i:=k) (by grind[Ba])
   grind[wj]
 .refine Af λk hk=>?_
  rw[Ba]at hk;rw[wj ho];split
  .rw[Pv];exact(ko ho).mul _
  grind[ko]
def pU(c o r i:Nat)(b:Bool)(m:Mz):Bool×Mz:=km [] (λr=>r) (λ_ r=>r) c o r i b m
def rQ(c o r i:Nat)(m:Mz):Mz:=oS [] (λr=>r) (λ_ r=>r) c o r i m
structure Ci(n c o i r:Nat)(m m':Mz):Prop where
 len:RW m'=RW m
 ln:Ln n m'
 sp:iD m m'
 out:∀k,(k<i∨i+r<=k)->nth [] m' k=nth [] m k
 inn:∀k,i<=k->k<i+r->∀j,eZ m' k j=eZ m k j-(eZ m k c).fdiv (eZ m o c)*eZ m o j
theorem Qr{c r:Nat}(hl:Ln n m)(ho:o<RW m)(hi:i+(r+1)<=RW m)(hoi:o<i∨i+(r+1)<=o)(h:Ci n c o (i+1) r (ja c o m i) m'):Ci n c o i (r+1) m m':=by
 have eo:nth [] (ja c o m i) o=nth [] m o:=sH aa aa;refine⟨h.len.trans (qF ..),h.ln,(ael hl aa ho aa).trans h.sp,λk hk=>?_,λk h1 h2 j=>?_⟩
 .rw[h.out k aa,sH aa aa]
 .by_cases hki:k=i
  .subst hki;have e1:nth [] m' k=nth [] (ja c o m k) k:=h.out k aa
   show nth 0 (nth [] m' k) j=_
   rw[e1];have:=YJ (c:=c) hl (by omega:k<RW m) ho k j
   grind
  .have e2:=h.inn k aa aa j;have e3:nth [] (ja c o m i) k=nth [] m k:=sH aa hki
   grind
theorem JE{n c o:Nat}:∀(r i:Nat){m:Mz},Ln n m->o<RW m->i+r<=RW m->(o<i∨i+r<=o)->Ci n c o i r m (rQ c o r i m)
 |0,i,m,hl,ho,hi,hoi=>⟨rfl,hl,iD.refl m,λ_ _=>rfl,λk h1 h2=>by omega⟩
 | r+1,i,m,hl,ho,hi,hoi=>by
  have ih:=JE (c:=c) r (i+1) (m:=ja c o m i) (L3 hl aa ho) (by rw[qF];exact ho) (by grind[qF]) aa;exact Qr hl ho hi hoi ih
theorem Fe{n c o:Nat}:∀(r i:Nat)(b:Bool){m:Mz},Ln n m->o<RW m->i+r<=RW m->(o<i∨i+r<=o)->Ci n c o i r m (pU c o r i b m).2∧((pU c o r i b m).1=SM->b=SM∧∀k,i<=k->k<i+r->(eZ m k c).fmod (eZ m o c)=0)
 |0,i,b,m,hl,ho,hi,hoi=>⟨⟨rfl,hl,iD.refl m,λ_ _=>rfl,λk h1 h2=>by omega⟩,λh=>⟨h,λk h1 h2=>by omega⟩⟩
 | r+1,i,b,m,hl,ho,hi,hoi=>by
  have ih:=Fe (c:=c) r (i+1) (b||decide ((eZ m i c).fmod (eZ m o c)≠0)) (m:=ja c o m i) (L3 hl aa ho) (by rw[qF];exact ho) (by grind[qF]) aa;refine⟨Qr hl ho hi hoi ih.1,λh=>?_⟩;have⟨h1,h2⟩:=ih.2 h;simp[Bool.or_eq_false_iff,decide_eq_false_iff_not,Decidable.not_not]at h1;refine⟨h1.1,λk a1 a2=>?_⟩;by_cases hki:k=i
  .grind
  .have eo:nth [] (ja c o m i) o=nth [] m o:=sH aa aa;have ek:nth [] (ja c o m i) k=nth [] m k:=sH aa hki
   grind
def aZ(c:Nat)(m:Mz)(r i:Nat)(a:Int):Int:=lI [] (λr=>r) c m r i a
theorem Jd(c:Nat)(m:Mz)(o:Nat):∀(r i:Nat)(a:Int),(a<0∧(∀k,o<=k->k<i->eZ m k c=0)∨(o:Int)<=a∧a<i∧eZ m a.toNat c≠0)->o<=i ->
  (aZ c m r i a<0∧(∀k,o<=k->k<i+r->eZ m k c=0)∨(o:Int)<=aZ c m r i a∧aZ c m r i a<(i+r:Nat)∧eZ m (aZ c m r i a).toNat c≠0)
 |0,i,a,h,hi=>by trivial
 | r+1,i,a,h,hi=>by
  have key:aZ c m (r+1) i a=aZ c m r (i+1) (if eZ m i c≠0∧(a<0∨(eZ m i c).natAbs<(eZ m a.toNat c).natAbs)then i else a):=rfl;rw[key];have e:i+1+r=i+(r+1):=aa;rw[<-e];refine Jd c m o r (i+1) _ ?_ aa;split
  .rename_i g;exact .inr ⟨aa,aa,ae⟩
  .rename_i g;rcases h with⟨h1,h2⟩|⟨h1,h2,h3⟩
   .refine .inl ⟨h1,λk a1 a2=>?_⟩;by_cases hk:k=i
    .grind
    .exact h2 k a1 aa
   .exact .inr ⟨h1,aa,h3⟩
structure Hm(n c o:Nat)(L:Nat->Nat)(m:Mz):Prop where
 le:o<=RW m
 ln:Ln n m
 lt:∀i,i<o->L i<c
 inc:∀i j,i<j->j<o->L i<L j
 pos:∀i,i<o->0<eZ m i (L i)
 low:∀i,i<o->∀j,j<L i->eZ m i j=0
 red:∀i j,i<j->j<o->0<=eZ m i (L j)∧eZ m i (L j)<eZ m j (L j)
 zer:∀k,o<=k->k<RW m->∀j,j<c->eZ m k j=0
theorem WC{c:Nat}(H:Hm n c o L m)(hl:RW m'=RW m)(hn:Ln n m')(h1:∀i,i<o->nth [] m' i=nth [] m i)(h2:∀k,o<=k->k<RW m->∀j,j<c->eZ m' k j=0):Hm n c o L m' where
 le:=by rw[hl];exact H.le
 ln:=hn
 lt:=H.lt
 inc:=H.inc
 pos:=λi hi=>by have:=H.pos i hi;grind
 low:=λi hi j hj=>by grind[Hm.low]
 red:=λi j hij hj=>by have:=H.red i j hij hj;simp[eZ,h1 i aa,h1 j hj];omega
 zer:=λk a b j hj=>h2 k a aa j hj
theorem ala{c:Nat}(H:Hm n c o L m)(h:∀k,o<=k->k<RW m->eZ m k c=0):Hm n (c+1) o L m where
 le:=H.le
 ln:=H.ln
 lt:=λi hi=>by have:=H.lt i hi;omega
 inc:=H.inc
 pos:=H.pos
 low:=H.low
 red:=H.red
 zer:=λk a b j hj=>by
  by_cases e:j=c
  .grind
  .exact H.zer k a b j aa
theorem alb{c:Nat}(H:Hm n c o L m)(ho:o<RW m)(h0:eZ m o c≠0)(h1:∀k,o<k->k<RW m->eZ m k c=0):
  Hm n (c+1) (o+1) (λi=>if i=o then c else L i) (rQ c o o 0 (lS c o m))∧iD m (rQ c o o 0 (lS c o m))∧RW (rQ c o o 0 (lS c o m))=RW m:=by
 have⟨m3,h3⟩:=bD (lS c o m);have l3:RW m3=RW m:=by rw[h3,Ba]
 have n3:Ln n m3:=by rw[h3];exact UG H.ln ho
 have r3:∀k,k≠o->nth [] m3 k=nth [] m k:=λk hk=>by rw[h3,wj ho,iN (λg=>hk g.1)]
 have o3:∀j,eZ m3 o j=if eZ m o c<0 then-eZ m o j else eZ m o j:=λj=>by
  simp[eZ,h3];rw[wj ho];by_cases g:eZ m o c<0
  .rw[ip ⟨rfl,g⟩,ip g,GQ]
  .rw[iN (λx=>g x.2),iN g]
 have p3:0<eZ m3 o c:=by rw[o3];split<;>omega
 have z3:∀j,j<c->eZ m3 o j=0:=λj hj=>by grind[Hm.zer]
 have U:=JE (c:=c) (o:=o) o 0 n3 aa aa (.inr aa);rw[<-h3];have⟨m4,h4⟩:=bD (rQ c o o 0 m3);rw[<-h4]at U ⊢
 have i4:∀i,i<o->∀j,eZ m4 i j=eZ m i j-(eZ m i c).fdiv (eZ m3 o c)*eZ m3 o j:=λi hi j=>by
  have:=U.inn i aa aa j;rw[this];simp[eZ,r3 i aa]
 have j4:∀i,i<o->∀j,j<c->eZ m4 i j=eZ m i j:=λi hi j hj=>by grind
 have k4:∀k,o<=k->∀j,eZ m4 k j=eZ m3 k j:=λk hk j=>by simp[eZ,U.out k (.inr aa)]
 have c4:∀i,i<o->0<=eZ m4 i c∧eZ m4 i c<eZ m3 o c:=λi hi=>by
  have e:eZ m4 i c=(eZ m i c).fmod (eZ m3 o c):=by
   rw[i4 i hi c,Int.fmod_def,Yi]
  simp_all[Int.fmod_nonneg_of_pos,Int.fmod_lt_of_pos]
 refine⟨⟨by rw[U.len];omega,U.ln,λi hi=>?_,λi j hij hj=>?_,λi hi=>?_,λi hi j hj=>?_,λi j hij hj=>?_,λk a b j hj=>?_⟩,?_,by rw[U.len,l3]⟩
 .show(if i=o then c else L i)<c+1
  split
  .omega
  .have:=H.lt i aa;omega
 .show(if i=o then c else L i)<(if j=o then c else L j)
  rw[iN aa];split
  .exact H.lt i aa
  .exact H.inc i j hij aa
 .show 0<eZ m4 i (if i=o then c else L i)
  by_cases e:i=o
  .grind
  .rw[iN e,j4 i aa _ (H.lt i aa)];exact H.pos i aa
 .have hj:j<(if i=o then c else L i):=hj;by_cases e:i=o
  .grind
  .rw[iN e]at hj;have:=H.lt i aa;rw[j4 i aa _ aa];exact H.low i aa j hj
 .show 0<=eZ m4 i (if j=o then c else L j)∧eZ m4 i (if j=o then c else L j)<eZ m4 j (if j=o then c else L j)
  by_cases e:j=o
  .rw[ip e,e,k4 o (Z8 _)];exact c4 i aa
  .rw[iN e,j4 i aa _ (H.lt j aa),j4 j aa _ (H.lt j aa)];exact H.red i j hij aa
 .rw[U.len,l3]at b;rw[k4 k aa];have e:eZ m3 k j=eZ m k j:=by simp[eZ,r3 k aa]
  rw[e];by_cases g:j=c
  .subst g;exact h1 k aa b
  .exact H.zer k aa b j aa
 grind[aen,iD.trans,Ci.sp]
def oZ(B c f o:Nat)(m:Mz):Option (Nat×Mz):=mn [] (λr=>r) (λ_ r=>r) B c f o m
theorem MX{n c B:Nat}:∀(f:Nat){o:Nat}{L:Nat->Nat}{m m':Mz}{o':Nat},Hm n c o L m->o<RW m->oZ B c f o m=Wf (o',m')->(∃L',Hm n (c+1) o' L' m')∧iD m m'∧RW m'=RW m
 |0,o,L,m,m',o',H,ho,h=>by cases h
 | f+1,o,L,m,m',o',H,ho,h=>by
  have key:oZ B c (f+1) o m=if(m.all λa=>Cb B a)=Th then
   (if aZ c m (RW m-o) o (-1)<0 then Wf (o,m)else
    if(pU c o (RW m-(o+1)) (o+1) SM (lO m o (aZ c m (RW m-o) o (-1)).toNat)).1=Th then oZ B c f o (pU c o (RW m-(o+1)) (o+1) SM (lO m o (aZ c m (RW m-o) o (-1)).toNat)).2
    else Wf (o+1,rQ c o o 0 (lS c o (pU c o (RW m-(o+1)) (o+1) SM (lO m o (aZ c m (RW m-o) o (-1)).toNat)).2)))else Vc:=rfl
  rw[key]at h;have A:=Jd c m o (RW m-o) o (-1) (.inl ⟨aa,λk a b=>by omega⟩) (Z8 _);have⟨a,ha⟩:=bD (aZ c m (RW m-o) o (-1));rw[<-ha]at A h;split at h
  case isFalse=>cases h
  split at h
  .rename_i g;cases h;rcases A with⟨_,A⟩|⟨A,_⟩
   .exact⟨⟨L,ala H λk h1 h2=>A k h1 aa⟩,iD.refl _,rfl⟩
   .omega
  .rename_i g;rcases A with⟨A,_⟩|⟨A1,A2,A3⟩
   .omega
   have hi:a.toNat<RW m:=aa;have⟨m1,h1⟩:=bD (lO m o a.toNat);have l1:RW m1=RW m:=by rw[h1,vh]
   have n1:Ln n m1:=by rw[h1];exact L4 H.ln ho hi
   have s1:iD m m1:=by rw[h1];exact aem ho hi
   have e1:∀k,nth [] m1 k=if k=a.toNat then nth [] m o else if k=o then nth [] m a.toNat else nth [] m k:=λk=>by grind[tJ]
   have H1:Hm n c o L m1:=WC H l1 n1 (λi DE=>by rw[e1,iN aa,iN aa]) (λk a1 a2 j hj=>by
    simp[eZ,e1];split
    .grind[Hm.zer]
    .split
     .exact H.zer a.toNat aa hi j hj
     grind[Hm.zer])
   have p1:eZ m1 o c≠0:=by
    simp only[eZ,e1];split
    .grind
    .trivial
   rw[<-h1]at h;have S:=Fe (n:=n) (c:=c) (o:=o) (RW m-(o+1)) (o+1) SM n1 aa aa (.inl aa);have⟨s,hs⟩:=bD (pU c o (RW m-(o+1)) (o+1) SM m1);rw[<-hs]at S h;have⟨S1,S2⟩:=S;have l2:s.2.length=RW m:=by rw[S1.len,l1]
   have eo:nth [] s.2 o=nth [] m1 o:=S1.out o (.inl aa)
   have H2:Hm n c o L s.2:=WC H1 S1.len S1.ln (λi DE=>S1.out i (.inl aa)) (λk a1 a2 j hj=>by
    by_cases hk:k=o
    .subst hk;simp[eZ,eo];exact H1.zer k (Z8 _) aa j hj
    .rw[S1.inn k aa aa j,H1.zer k a1 a2 j hj,H1.zer o (Z8 _) aa j hj];simp)
   split at h
   .have ih:=MX f H2 aa h;exact⟨ih.1,(s1.trans S1.sp).trans ih.2.1,by rw[ih.2.2,l2]⟩
   .rename_i gs;cases h;have z:=S2 ae
    have E:=alb (c:=c) H2 aa ae (λk a1 a2=>by
     rw[S1.inn k aa aa c];have:=z.2 k aa aa;rw[Int.fmod_def,Yi]at this;omega)
    exact⟨⟨_,E.1⟩,(s1.trans S1.sp).trans E.2.1,by rw[E.2.2,l2]⟩
def I6(B f r c o:Nat)(m:Mz):Option (Nat×Mz):=kG [] (λr=>r) (λ_ r=>r) B f r c o m
theorem WE{n B f:Nat}:∀(r:Nat){c o:Nat}{L:Nat->Nat}{m m':Mz}{o':Nat},Hm n c o L m->I6 B f r c o m=Wf (o',m')->(∃L',Hm n (c+r) o' L' m')∧iD m m'∧RW m'=RW m
 | 0,c,o,L,m,m',o',H,h=>by
  cases h
  grind[iD.refl]
 | r+1,c,o,L,m,m',o',H,h=>by
  have h2:kG [] (λr=>r) (λ_ r=>r) B f (r+1) c o m=Wf (o',m'):=h;simp[kG]at h2;split at h2
  .rename_i ho;split at h2
   .rename_i o1 m1 hr;have⟨⟨L1,H1⟩,s1,l1⟩:=MX f H ho hr;have⟨⟨L2,H2⟩,s2,l2⟩:=WE r H1 h2;exact⟨⟨L2,by rw[show c+(r+1)=c+1+r by omega];exact H2⟩,s1.trans s2,by rw[l2,l1]⟩
   trivial
  .rename_i ho;cases h2;have e:∀k,o<=k->k<RW m->False:=λk a b=>by omega
   exact⟨⟨L,⟨H.le,H.ln,λi hi=>by have:=H.lt i hi;omega,H.inc,H.pos,H.low,H.red,λk a b=>absurd (e k a b) id⟩⟩,iD.refl _,rfl⟩
theorem HY{B f columns:Nat}(hl:Ln n m)(h:m6 B f columns m=Wf (o,m')):(∃L,Hm n columns o L m')∧iD m m'∧RW m'=RW m:=by
 have H:Hm n 0 0 (λ_=>0) m:=⟨aa,hl,λi hi=>by omega,λi j h1 h2=>by omega,λi hi=>by omega,λi hi=>by omega,λi j h1 h2=>by omega,λk a b j hj=>by omega⟩;have:=WE (n:=n) (B:=B) (f:=f) columns H h
 grind
def jy(L:Nat->Nat)(m:Mz):Nat->Nat->List (Nat×Ve)
 |0,_=>[]
 |r+1,i=>(L i,ve (nth [] m i))::jy L m r (i+1)
theorem yC{L:Nat->Nat}{m:Mz}:∀{r i:Nat} {x},x∈jy L m r i->∃k,i<=k∧k<i+r∧x=(L k,ve (nth [] m k))
 |0,i,x,h=>by trivial
 | r+1,i,x,h=>by
  simp[jy,Zy]at h;rcases h with rfl|h
  .exact⟨i,aa,aa,rfl⟩
  .have⟨k,a,b,e⟩:=yC h;exact⟨k,aa,aa,e⟩
theorem sW{n c o:Nat}{L:Nat->Nat}{m:Mz}(H:Hm n c o L m):∀(r i b:Nat),i+r=o->(i<o->b<=L i)->fV b (jy L m r i)
 |0,i,b,e,h=>trivial
 | r+1,i,b,e,h=>by
  refine⟨⟨h aa,H.pos i aa,λj hj=>H.low i aa j hj⟩,λx hx=>?_,sW H r (i+1) (L i+1) aa (λhi=>by have:=H.inc i (i+1) aa hi;omega)⟩;obtain⟨k,a1,a2,rfl⟩:=yC hx;exact H.red i k aa aa
theorem acm{k c:Nat}(H:Hm n c o L m)(hc:n<=c)(h1:o<=k)(h2:k<RW m):ve (nth [] m k)=λ_=>0:=funext λj=>by
 by_cases h:j<c
 .exact H.zer k h1 h2 j h
 .show nth 0 (nth [] m k) j=0
  have:=H.ln k h2;rw[nth,Z6,List.getElem?_eq_none aa];rfl
theorem sV{c:Nat}(H:Hm n c o L m)(hc:n<=c)(v:Ve):bV (vs (jy L m o 0)) v↔eT m v:=by
 have key:∀r i k,i<=k->k<i+r->ve (nth [] m k)∈vs (jy L m r i):=by
  intro r
  induction r with
  |zero=>omega
  | succ r ih=>
   intro i k a b;simp only[vs,jy,Zv,Zy];by_cases e:k=i
   .exact .inl (by rw[e])
   .exact .inr (ih (i+1) k aa aa)
 constructor
 .intro h;refine bV.le (λg hg=>?_) h;obtain⟨x,hx,rfl⟩:=Zw.1 hg;obtain⟨k,a1,a2,rfl⟩:=yC hx;exact ko (by have:=H.le;omega)
 .intro h;refine bV.le (λg hg=>?_) h;obtain⟨r,hr,rfl⟩:=Zw.1 hg;obtain⟨k,hk,rfl⟩:=Zj.1 hr;have e:m[k]=nth [] m k:=by rw[nth,Z6,List.getElem?_eq_getElem hk];rfl
  rw[e];by_cases hko:k<o
  .exact bV.mem (key o 0 k aa aa)
  .rw[acm H hc aa hk];exact bV.zero _
theorem acn{a b:aw}(hl:RW a=RW b)(h:ve a=ve b):a=b:=by
 refine Wl hl λi h1 h2=>?_
 have:=congrFun h i
 grind[ve,nth]
theorem Bp(L:Nat->Nat)(m:Mz):∀r i,RW (jy L m r i)=r
 |0,_=>rfl
 |r+1,i=>by simp[jy,Bp L m r (i+1)]
theorem Vd{L L':Nat->Nat}{m m':Mz}:∀{r i:Nat},jy L m r i=jy L' m' r i->∀k,i<=k->k<i+r->ve (nth [] m k)=ve (nth [] m' k)
 |0,i,_,k,a,b=>by omega
 | r+1,i,h,k,a,b=>by
  simp[jy,List.cons.injEq,Z5]at h;by_cases e:k=i
  .grind
  .exact Vd h.2 k aa aa
def dM:Nat->Ve->Ve->Int
 |0,_,_=>0
 |n+1,a,b=>dM n a b+a n*b n
theorem BQ(a u v:Ve):∀n,dM n a (λi=>u i+v i)=dM n a u+dM n a v
 |0=>rfl
 |n+1=>by simp[dM,BQ a u v n];grind
theorem y9(a u:Ve)(k:Int):∀n,dM n a (λi=>k*u i)=k*dM n a u
 |0=>by simp[dM]
 |n+1=>by simp[dM,y9 a u k n];grind
theorem wQ(a:Ve):∀n,dM n a (λ_=>0)=0
 |0=>rfl
 |n+1=>by simp[dM,wQ a n]
theorem wR(a b:Ve):∀n,dM n a b=dM n b a
 |0=>rfl
 |n+1=>by simp only[dM,wR a b n];grind
def dJ(n:Nat)(S:Ve->Prop)(v:Ve):Prop:=(∀u,S u->dM n u v=0)∧∀j,n<=j->v j=0
theorem Mx{S T:Ve->Prop}(h:∀u,S u->T u)(hv:dJ n T v):dJ n S v:=⟨λu hu=>hv.1 u (h u hu),hv.2⟩
theorem akt{S:Ve->Prop}(hS:∀u,S u->∀j,n<=j->u j=0)(v:Ve):dJ n (dJ n (dJ n S)) v↔dJ n S v:=by
 constructor
 .exact λh=>Mx (λu hu=>⟨λw hw=>by rw[wR];exact hw.1 u hu,hS u hu⟩) h
 .exact λh=>⟨λu hu=>by rw[wR];exact hu.1 v h,h.2⟩
theorem Ec:∀{m:List Ve},(∀g∈m,dM n g v=0)->∀{u},bV m u->dM n u v=0
 | m,h,u,⟨ks,e⟩=>by
  subst e;rw[wR]
  induction m generalizing ks with
  |nil=>cases ks<;>exact wQ v n
  | cons g m ih=>
   cases ks with
   |nil=>exact wQ v n
   | cons k ks=>
    have e:gr (k::ks) (g::m)=λi=>(λi=>k*g i) i+gr ks m i:=rfl
    rw[e,BQ,y9,ih (λx hx=>h x (by simp[hx])) ks,wR v g,h g ac];simp
theorem zD(n:Nat)(m:Mz):RW (iE n m)=n:=by simp[iE]
theorem Pi{c:Nat}(hc:c<n):nth [] (iE n m) c=m.map (λr=>nth 0 r c)++(So n (0:Int)).set c 1:=by rw[nth,Z6,iE,List.getElem?_map,List.getElem?_range hc];rfl
theorem Cs{c:Nat}(hc:c<n)(i:Nat):ve (nth [] (iE n m) c) i=if i<RW m then ve (nth [] m i) c else if i=RW m+c then 1 else 0:=by
 rw[Pi hc]
 show nth 0 _ i=_
 by_cases h:i<RW m
 .rw[ip h,nth,Z6,List.getElem?_append_left ae,List.getElem?_map,List.getElem?_eq_getElem h];have e:nth [] m i=m[i]:=by rw[nth,Z6,List.getElem?_eq_getElem h];rfl
  rw[e];rfl
 .rw[iN h,nth,Z6,List.getElem?_append_right ae,List.length_map,List.getElem?_set,Y8];by_cases e:i=RW m+c
  .rw[ip aa,ip hc,ip e];rfl
  .rw[iN aa,iN e,List.getElem?_replicate]
   grind
def j8(n:Nat)(m:Mz)(v:Ve):Prop:=(∀i,i<RW m->v i=dM n (ve (nth [] m i)) λc=>v (RW m+c))∧∀j,RW m+n<=j->v j=0
theorem j8.add(hu:j8 n m u)(hv:j8 n m v):j8 n m λi=>u i+v i:=
 ⟨λi hi=>by
  show u i+v i=dM n _ λc=>u (RW m+c)+v (RW m+c)
  rw[hu.1 i hi,hv.1 i hi,<-BQ],λj hj=>by simp only[hu.2 j hj,hv.2 j hj];rfl⟩
theorem j8.mul(k:Int)(hu:j8 n m u):j8 n m λi=>k*u i:=
 ⟨λi hi=>by
  show k*u i=dM n _ λc=>k*u (RW m+c)
  rw[hu.1 i hi,<-y9],λj hj=>by simp only[hu.2 j hj];simp⟩
theorem j8.zero(n:Nat)(m:Mz):j8 n m λ_=>0:=⟨λi hi=>(wQ _ _).symm,λ_ _=>rfl⟩
theorem Ir(a:Ve)(c:Nat):∀n,dM n a (λj=>if j=c then 1 else 0)=if c<n then a c else 0
 |0=>rfl
 | n+1=>by
  simp[dM,Ir a c n];by_cases h:n=c
  .grind
  .rw[iN h];by_cases g:c<n
   .rw[ip g,ip aa];simp
   .rw[iN g,iN aa];simp
theorem abW{c:Nat}(hc:c<n):j8 n m (ve (nth [] (iE n m) c)):=by
 refine⟨λi hi=>?_,λj hj=>?_⟩
 ·have e:(λx=>ve (nth [] (iE n m) c) (RW m+x))=λj=>if j=c then 1 else 0:=funext λx=>by
   rw[Cs hc,iN aa];by_cases g:x=c
   .rw[ip aa,ip g]
   .rw[iN aa,iN g]
  grind[Ir,Cs]
 .rw[Cs hc,iN aa,iN aa]
theorem abX(h:eT (iE n m) v):j8 n m v:=by
 obtain⟨ks,rfl⟩:=h
 have key:∀(l:List Ve),(∀g∈l,j8 n m g)->∀ks,j8 n m (gr ks l):=by
  intro l
  induction l with
  |nil=>intro _ ks;cases ks<;>exact j8.zero n m
  | cons g l ih=>
   intro hg ks;cases ks with
   |nil=>exact j8.zero n m
   |cons k ks=>exact((hg g ac).mul k).add (ih (λx hx=>hg x ae) ks)
 refine key _ (λg hg=>?_) ks;obtain⟨r,hr,rfl⟩:=Zw.1 hg;obtain⟨c,hc,rfl⟩:=Zj.1 hr;have hc':c<n:=by rw[zD]at hc;exact hc
 have e:(iE n m)[c]=nth [] (iE n m) c:=by rw[nth,Z6,List.getElem?_eq_getElem hc];rfl
 grind[abW]
theorem Pj{n:Nat}{m:Mz}(v:Ve):∀t,t<=n->∃s,eT (iE n m) s∧(∀i,i<RW m->s i=dM t (ve (nth [] m i)) λc=>v (RW m+c))∧(∀c,c<t->s (RW m+c)=v (RW m+c))∧∀c,t<=c->s (RW m+c)=0
 |0,_=>⟨λ_=>0,bV.zero _,λi hi=>rfl,λc hc=>by omega,λc hc=>rfl⟩
 | t+1,ht=>by
  have⟨s,h1,h2,h3,h4⟩:=Pj (n:=n) (m:=m) v t aa;have hr:eT (iE n m) (ve (nth [] (iE n m) t)):=ko (m:=iE n m) (i:=t) (by grind[zD]);have e1:=λi=>Cs (n:=n) (m:=m) (c:=t) aa i
  refine⟨λi=>s i+v (RW m+t)*ve (nth [] (iE n m) t) i,h1.add (hr.mul _),λi hi=>?_,λc hc=>?_,λc hc=>?_⟩
  .grind[dM]
  .show s (RW m+c)+v (RW m+t)*ve (nth [] (iE n m) t) (RW m+c)=_
   rw[e1,iN aa];by_cases g:c=t
   .grind
   .rw[h3 c aa,iN aa];simp
  .show s (RW m+c)+v (RW m+t)*ve (nth [] (iE n m) t) (RW m+c)=_
   rw[e1,iN aa,h4 c aa,iN aa];simp
theorem abV(h:j8 n m v):eT (iE n m) v:=by
 have⟨s,h1,h2,h3,h4⟩:=Pj (n:=n) (m:=m) v n (Z8 _)
 have e:s=v:=funext λi=>by
  by_cases hi:i<RW m
  .rw[h2 i hi,h.1 i hi]
  .obtain⟨c,rfl⟩:∃c,i=RW m+c:=⟨i-RW m,aa⟩;by_cases hc:c<n
   .grind
   .rw[h4 c aa,h.2 _ aa]
 grind
theorem Ph(v:Ve):eT (iE n m) v↔j8 n m v:=⟨abX,abV⟩
theorem MW:∀{m:List (Nat×Ve)}{o:Nat},fV o m->∀(k:Nat){v:Ve},bV (vs m) v->(∀j,j<k->v j=0)->bV (vs (m.filter λx=>decide (k<=x.1))) v
 |[],o,H,k,v,hv,h0=>hv
 | (l,h)::m,o,H,k,v,hv,h0=>by
  by_cases g:k<=l
  ·have e:((l,h)::m).filter (λx=>decide (k<=x.1))=(l,h)::m:=List.filter_eq_self.2 λx hx=>by
    rcases Zy.1 hx with rfl|hx
    .simpa using g
    .have:=yU H.2.2 x hx;simp only[dT];omega
   rw[e];exact hv
  ·have e:((l,h)::m).filter (λx=>decide (k<=x.1))=m.filter (λx=>decide (k<=x.1)):=by
    rw[List.filter_cons_of_neg (by simpa using g)]
   rw[e];exact MW H.2.2 k (HX H hv (h0 l aa)) h0
def dC(E:Nat)(m:Mz):Prop:=∀i j,(eZ m i j).natAbs<=E
theorem dC.mono(h:E<=E')(b:dC E m):dC E' m:=λi j=>Z1 (b i j) h
theorem Ia{a b:Int}(h:0<b):0<=a.fmod b∧a.fmod b<b:=⟨Int.fmod_nonneg_of_pos a h,Int.fmod_lt_of_pos a h⟩
theorem XK{a b:Int}(h:b<0):b<a.fmod b∧a.fmod b<=0:=by
 have:=Ia (a:=-a) (b:=-b) aa
 simp_all
theorem XO{a b:Int}(h:b≠0):(a.fdiv b).natAbs<=a.natAbs:=by
 have key:∀(a b:Int),0<b->(a.fdiv b).natAbs<=a.natAbs:=λa b hb=>by
  have h1:=Int.mul_fdiv_add_fmod a b;have h2:=Ia (a:=a) hb;generalize a.fdiv b=q at *;generalize a.fmod b=r at *;rcases Int.lt_trichotomy q 0 with hq|hq|hq
  .have h4:b*(-q)≥1*(-q):=Y0 aa aa;have h5:b*(-q) = -(b*q):=Int.mul_neg ..;rcases Int.lt_trichotomy a 0 with ha|ha|ha
   .have h6:b*(-q-1)≥1*(-q-1):=Y0 aa aa;have h7:b*(-q-1) = -(b*q)-b:=by rw[Int.mul_sub];omega
    omega
   .have h6:b*(-q)≥b*1:=Xq aa aa;omega
   .have h6:b*(-q)≥b*1:=Xq aa aa;omega
  .omega
  .have h4:b*q≥1*q:=Y0 aa aa;omega
 rcases Int.lt_trichotomy b 0 with hb|hb|hb
 .have:=key (-a) (-b) aa
  simp_all
 .omega
 grind
theorem aa5{B:Nat}(h:dC E m)(hE:E<10^B):(m.all λa=>Cb B a)=Th:=by
 rw[Zz];intro r hr;obtain⟨i,hi,rfl⟩:=Zj.1 hr
 show(m[i].all λx=>decide (x.natAbs<10^B))=Th
 rw[Zz];intro x hx;obtain⟨j,hj,rfl⟩:=Zj.1 hx;have:=h i j
 grind[nth]
theorem JY{c r:Nat}{Q:Nat}(S:Ci n c o i r m m')(h:dC E m)(hq:∀k,i<=k->k<i+r->((eZ m k c).fdiv (eZ m o c)).natAbs<=Q):dC (E*(1+Q)) m':=λk j=>by
 have hE:E<=E*(1+Q):=Zc _ aa;by_cases hk:i<=k∧k<i+r
 .rw[S.inn k hk.1 hk.2 j];have h1:=Int.natAbs_sub_le (eZ m k j) ((eZ m k c).fdiv (eZ m o c)*eZ m o j);rw[Zl]at h1;have h2:=Zr (hq k hk.1 hk.2) (h o j);have h3:=h k j
  grind
 .have:eZ m' k j=eZ m k j:=by simp[eZ,S.out k aa]
  rw[this];exact Z1 (h k j) hE
theorem Qt{a:Nat}(ho:o<RW m)(ha:a<RW m)(h:dC E m):dC E (lO m o a):=λk j=>by
 simp[eZ,tJ ho ha];split
 .exact h o j
 .split
  .exact h a j
  .exact h k j
theorem aiA{c:Nat}(ho:o<RW m)(h:dC E m):dC E (lS c o m):=λk j=>by
 simp[eZ,wj ho];split
 .rw[GQ];have:=h o j
  grind
 .exact h k j
theorem abd(c:Nat)(m:Mz)(o:Nat):∀(r i:Nat)(a:Int),(0<=a->∀k,o<=k->k<i->eZ m k c≠0->(eZ m a.toNat c).natAbs<=(eZ m k c).natAbs)->(a<0->∀k,o<=k->k<i->eZ m k c=0)->o<=i ->
  0<=aZ c m r i a->∀k,o<=k->k<i+r->eZ m k c≠0->(eZ m (aZ c m r i a).toNat c).natAbs<=(eZ m k c).natAbs
 |0,i,a,h,_,hi=>by trivial
 | r+1,i,a,h,h0,hi=>by
  have key:aZ c m (r+1) i a=aZ c m r (i+1) (if eZ m i c≠0∧(a<0∨(eZ m i c).natAbs<(eZ m a.toNat c).natAbs)then i else a):=rfl;rw[key];have e:i+1+r=i+(r+1):=aa;rw[<-e];refine abd c m o r (i+1) _ ?_ ?_ aa
  .split
   .rename_i g;intro _ k a1 a2 hk;by_cases ek:k=i
    .grind
    .rcases g.2 with g2|g2
     .exact absurd (h0 g2 k a1 aa) hk
     .by_cases ha:0<=a
      .grind
      .exact absurd (h0 aa k a1 aa) hk
   .rename_i g;intro ha k a1 a2 hk;by_cases ek:k=i
    .grind
    .exact h ha k a1 aa hk
  .split
   .omega
   .rename_i g;intro ha k a1 a2;by_cases ek:k=i
    .grind
    .exact h0 ha k a1 aa
theorem JZ{n c o:Nat}:∀(r i:Nat)(b:Bool){m:Mz},Ln n m->o<RW m->i+r<=RW m->(o<i∨i+r<=o)->(pU c o r i b m).1=Th->b=Th∨∃k,i<=k∧k<i+r∧(eZ m k c).fmod (eZ m o c)≠0
 |0,i,b,m,hl,ho,hi,hoi,h=>.inl h
 | r+1,i,b,m,hl,ho,hi,hoi,h=>by
  have ih:=JZ (c:=c) r (i+1) (b||decide ((eZ m i c).fmod (eZ m o c)≠0)) (m:=ja c o m i) (L3 hl aa ho) (by grind[qF]) (by grind[qF]) aa h;rcases ih with ih|⟨k,a1,a2,a3⟩
  .grind
  .have eo:nth [] (ja c o m i) o=nth [] m o:=sH aa aa;have ek:nth [] (ja c o m i) k=nth [] m k:=sH aa aa;simp only[eZ,eo,ek]at a3;exact .inr ⟨k,aa,aa,a3⟩
theorem Gk(B c f o:Nat)(m:Mz):oZ B c (f+1) o m=if(m.all λa=>Cb B a)=Th then
   (if aZ c m (RW m-o) o (-1)<0 then Wf (o,m)else
    if(pU c o (RW m-(o+1)) (o+1) SM (lO m o (aZ c m (RW m-o) o (-1)).toNat)).1=Th then oZ B c f o (pU c o (RW m-(o+1)) (o+1) SM (lO m o (aZ c m (RW m-o) o (-1)).toNat)).2
    else Wf (o+1,rQ c o o 0 (lS c o (pU c o (RW m-(o+1)) (o+1) SM (lO m o (aZ c m (RW m-o) o (-1)).toNat)).2)))else Vc:=rfl
theorem K6{B c:Nat}:∀(f g:Nat){o:Nat}{m:Mz}{r:Nat×Mz},oZ B c f o m=Wf r->f<=g->oZ B c g o m=Wf r
 |0,g,o,m,r,h,_=>by cases h
 |f+1,0,o,m,r,h,hg=>by omega
 | f+1,g+1,o,m,r,h,hg=>by
  rw[Gk]at h ⊢;split at h
  .rename_i h1;rw[ip h1];split at h
   .grind
   .rename_i h2;rw[iN h2];split at h
    .rename_i h3;rw[ip h3];exact K6 f g h aa
    grind
  .cases h
theorem YI{c:Nat}(hl:Ln n m)(ho:o<RW m)(h0:eZ m o c≠0)(h:dC E m):dC (2*E*E) (rQ c o o 0 (lS c o m)):=by
 have h1:=aiA (c:=c) ho h;have l1:RW (lS c o m)=RW m:=Ba c o m
 have h2:eZ (lS c o m) o c≠0:=by
  simp only[eZ,wj ho];split
  .grind[GQ]
  .exact h0
 have hE:1<=E:=by have:=h o c;omega
 refine dC.mono ?_ (JY (Q:=E) (JE (c:=c) o 0 (UG hl ho) aa aa (.inr aa)) h1 (λk _ _=>Z1 (XO h2) (h1 k c)));rw[Zm,Y1,Nat.mul_assoc,Nat.two_mul];have:E*1<=E*E:=Z4 _ hE;omega
theorem ac2{p:Nat}(h:p<=M):2*p*(M-p)<=M*M:=by
 obtain⟨d,rfl⟩:∃d,M=p+d:=⟨M-p,aa⟩
 grind
theorem ahe{p p':Nat}(h0:0<p)(h:p<=M)(h1:p'<=p)(h2:M/p=1->p'<=M-p):(1+M/p)*p*p'<=M*M:=by
 have hq:1<=M/p:=(Xt h0).2 aa;have hm:M/p*p<=M:=Wh M p;by_cases e:M/p=1
 .have:=h2 e;rw[e];exact Z1 (Z4 _ this) (ac2 h)
 .generalize M/p=q at *
  have h3:1+q<=q*q:=by
   have:2*q<=q*q:=Zu _ aa;omega
  calc (1+q)*p*p'<=q*q*p*p:=Zr (Zu _ h3) h1
   _=(q*p)*(q*p):=by rw[Nat.mul_assoc q q p,Nat.mul_assoc q (q*p) p,Nat.mul_assoc q p p,Nat.mul_assoc q p (q*p),Y3 p q p]
   _<=M*M:=Zr hm hm
structure O0(n c o:Nat)(s:Int)(E M:Nat)(m:Mz):Prop where
 ln:Ln n m
 ho:o<RW m
 hs:s=1∨s = -1
 col:∀k,o<=k->k<RW m->0<=s*eZ m k c∧s*eZ m k c<=M
 bd:dC E m
theorem ag7{B c W:Nat}(hW:W<10^B){s:Int}:∀(p:Nat){E M:Nat}{m:Mz},O0 n c o s E M m->1<=E->(∃k,o<=k∧k<RW m∧eZ m k c≠0∧(eZ m k c).natAbs<=p)->2*E*(M*M)*p<=W ->
  ∃f o' m',oZ B c f o m=Wf (o',m')∧dC (2*W*W) m'∧o'=o+1:=by
 intro p
 induction p using Nat.strongRecOn with
 |ind p ih=>
 intro E M m S hE ⟨k0,k1,k2,k3,k4⟩ hw;have ho:=S.ho;have A:=Jd c m o (RW m-o) o (-1) (.inl ⟨aa,λk a b=>by omega⟩) (Z8 _);have A2:=abd c m o (RW m-o) o (-1) (λh=>by omega) (λ_ k a b=>by omega) (Z8 _);have⟨a,ha⟩:=bD (aZ c m (RW m-o) o (-1));rw[<-ha]at A A2;rcases A with⟨_,A⟩|⟨a1,a2,a3⟩
 .exact absurd (A k0 k1 aa) k3
 have hi:a.toNat<RW m:=aa;have amin:=A2 aa;have⟨p0,hp0⟩:=bD ((eZ m a.toNat c).natAbs);have p0p:p0<=p:=by rw[hp0];exact Z1 (amin k0 k1 aa k3) k4
 have p0pos:0<p0:=aa;have ca:=S.col a.toNat aa hi;have sp0:s*eZ m a.toNat c=p0:=by rcases S.hs with h|h<;>subst h<;>omega
 have p0M:p0<=M:=aa;have⟨m1,h1⟩:=bD (lO m o a.toNat);have l1:RW m1=RW m:=by rw[h1,vh]
 have n1:Ln n m1:=by rw[h1];exact L4 S.ln ho hi
 have e1:∀k,nth [] m1 k=if k=a.toNat then nth [] m o else if k=o then nth [] m a.toNat else nth [] m k:=λk=>by grind[tJ]
 have b1:dC E m1:=by rw[h1];exact Qt ho hi S.bd
 have eo:eZ m1 o c=eZ m a.toNat c:=by
  simp only[eZ,e1];split
  .grind
  .rw[ip trivial]
 have any1:∀k,o<=k->k<RW m->∃k',o<=k'∧k'<RW m∧eZ m1 k c=eZ m k' c:=λk q1 q2=>by
  simp[eZ,e1];split
  .grind
  .split
   .exact⟨a.toNat,aa,hi,rfl⟩
   grind
 have⟨Q,hQ⟩:=bD (M/p0)
 -- a row behind
 have row:∀k,o<=k->k<RW m->0<=(eZ m1 k c).fdiv (eZ m1 o c)∧((eZ m1 k c).fdiv (eZ m1 o c)).natAbs<=Q∧0<=s*(eZ m1 k c).fmod (eZ m1 o c)∧s*(eZ m1 k c).fmod (eZ m1 o c)<p0 ∧
   s*eZ m1 k c=p0*(eZ m1 k c).fdiv (eZ m1 o c)+s*(eZ m1 k c).fmod (eZ m1 o c)∧s*eZ m1 k c<=M:=λk q1 q2=>by
  have⟨k',r1,r2,r3⟩:=any1 k q1 q2;have c1:=S.col k' r1 r2;rw[<-r3]at c1;have d1:=Int.mul_fdiv_add_fmod (eZ m1 k c) (eZ m1 o c);have sp1:s*eZ m1 o c=p0:=by rw[eo];exact sp0
  have f1:0<=s*(eZ m1 k c).fmod (eZ m1 o c)∧s*(eZ m1 k c).fmod (eZ m1 o c)<p0:=by
   rcases S.hs with h|h
   .subst h;have:=Ia (a:=eZ m1 k c) (b:=eZ m1 o c) aa;omega
   .subst h;have:=XK (a:=eZ m1 k c) (b:=eZ m1 o c) aa;omega
  generalize(eZ m1 k c).fdiv (eZ m1 o c)=q at *;generalize(eZ m1 k c).fmod (eZ m1 o c)=r at *;have g1:s*eZ m1 k c=p0*q+s*r:=by rw[<-d1,V2,<-Int.mul_assoc,sp1]
  have q0:0<=q:=by
   rcases Int.lt_or_le q 0 with hq|hq
   .have:(p0:Int)*q<=p0*(-1):=Xq aa aa;omega
   .exact hq
  refine⟨q0,?_,f1.1,f1.2,g1,c1.2⟩;rw[hQ,Xt p0pos]
  have:(q.natAbs*p0:Int)<=M:=by
   rw[Xb q0,Yi];omega
  omega
 have SW:=Fe (n:=n) (c:=c) (o:=o) (RW m-(o+1)) (o+1) SM n1 aa aa (.inl aa);have SR:=JZ (n:=n) (c:=c) (o:=o) (RW m-(o+1)) (o+1) SM n1 aa aa (.inl aa);have⟨s2,hs2⟩:=bD (pU c o (RW m-(o+1)) (o+1) SM m1);rw[<-hs2]at SW SR;have⟨SW,_⟩:=SW
 have b2:dC (E*(1+Q)) s2.2:=JY SW b1 λk q1 q2=>(row k aa aa).2.1
 have l2:s2.2.length=RW m:=by rw[SW.len,l1]
 have eo2:eZ s2.2 o c=eZ m1 o c:=by simp[eZ,SW.out o (.inl aa)]
 have M1:1<=M:=aa
 have hEW:E*(1+Q)<=W:=by
  refine Z1 ?_ hw;have hQM:Q<=M:=by rw[hQ];exact Yv M p0
  have t1:M*1<=M*M:=Z4 _ M1;have t2:E*(1+Q)<=E*(2*(M*M)):=Z4 _ aa;have t3:E*(2*(M*M))*1<=E*(2*(M*M))*p:=Z4 _ aa;rw[Zq 2 E,Nat.mul_assoc E 2];omega
 have hE2:E<=E*(1+Q):=Zc _ aa;have hall:=aa5 (B:=B) S.bd aa
 have step:∀f,oZ B c (f+1) o m=if s2.1=Th then oZ B c f o s2.2 else Wf (o+1,rQ c o o 0 (lS c o s2.2)):=λf=>by
  rw[Gk,ip hall,<-ha,iN aa,<-h1,<-hs2]
 cases hb:s2.1 with
 | false=>
  refine⟨1,_,_,by rw[step,hb];rfl,?_,rfl⟩;refine dC.mono ?_ (YI (c:=c) SW.ln aa aa b2);exact Zr (Z4 _ hEW) hEW
 | true=>
  rcases SR hb with h|⟨k,q1,q2,q3⟩
  .cases h
  have⟨r1,r2,r3,r4,r5,r6⟩:=row k aa aa;have⟨p',hp'⟩:=bD (((eZ m1 k c).fmod (eZ m1 o c)).natAbs);have sp':s*(eZ m1 k c).fmod (eZ m1 o c)=p':=by rcases S.hs with h|h<;>subst h<;>omega
  have p'lt:p'<p0:=aa
  have val:∀k,o<k->k<RW m->eZ s2.2 k c=(eZ m1 k c).fmod (eZ m1 o c):=λk a b=>by
   rw[SW.inn k aa aa c,Int.fmod_def,Yi]
  have S2:O0 n c o s (E*(1+Q)) p0 s2.2:=⟨SW.ln,aa,S.hs,λk a b=>by
   by_cases hk:k=o
   .grind
   .rw[val k aa aa];have:=row k a aa;omega,b2⟩
  have hkey:(1+Q)*p0*p'<=M*M:=by
   rw[hQ];refine ahe p0pos p0M aa λe=>?_
   rw[<-hQ]at e;have nz:eZ m1 k c≠0:=λhz=>q3 (by rw[hz,Int.zero_fmod])
   have⟨k',t1,t2,t3⟩:=any1 k aa aa;have hm:=amin k' t1 aa aa;rw[<-t3,<-hp0]at hm
   have hx:s*eZ m1 k c=(eZ m1 k c).natAbs:=by
    have:0<=s*eZ m1 k c:=by
     have:=S.col k' t1 t2;rw[<-t3]at this;exact this.1
    rcases S.hs with h|h<;>subst h<;>omega
   generalize(eZ m1 k c).fdiv (eZ m1 o c)=q at *
   have q1:q=1:=by
    rcases Int.lt_or_le q 1 with h|h
    .grind
    .omega
   subst q1;omega
  obtain ⟨f,o',m',g1,g2,g3⟩:=ih p' aa S2 aa ⟨k,aa,aa,by rw[val k aa aa];exact q3,by rw[val k aa aa];omega⟩ (by
   refine Z1 ?_ hw
   calc 2*(E*(1+Q))*(p0*p0)*p'=2*E*p0*((1+Q)*p0*p'):=by grind
    _<=2*E*p0*(M*M):=Z4 _ hkey
    _<=2*E*p*(M*M):=Zu _ (Z4 _ p0p)
    _=2*E*(M*M)*p:=by grind)
  exact⟨f+1,o',m',by rw[step,hb,ip rfl];exact g1,g2,g3⟩
theorem Ll(E:Nat)(h:1<=E):∀k,1<=E^k:=λk=>Nat.one_le_pow k E h
theorem aha{B c:Nat}(hl:Ln n m)(ho:o<RW m)(hE:1<=E)(hb:dC E m)(hW:4*E^5<10^B):
  ∃f o' m',oZ B c f o m=Wf (o',m')∧dC (32*E^10) m'∧(o'=o+1∨o'=o∧m'=m):=by
 have A:=Jd c m o (RW m-o) o (-1) (.inl ⟨aa,λk a b=>by omega⟩) (Z8 _);have⟨a,ha⟩:=bD (aZ c m (RW m-o) o (-1));rw[<-ha]at A;have e4:=Ll E hE 4;have e9:=Ll E hE 9;have t5:E*1<=E*E^4:=Z4 _ e4;have t10:E*1<=E*E^9:=Z4 _ e9;have p5:E^5=E*E^4:=by rw[Nat.pow_succ,Zq]
 have p10:E^10=E*E^9:=by rw[Nat.pow_succ,Zq]
 have hall:=aa5 (B:=B) hb aa;by_cases hneg:a<0
 .exact⟨1,o,m,by rw[Gk,ip hall,<-ha,ip hneg],hb.mono aa,.inr ⟨rfl,rfl⟩⟩
 rcases A with⟨h,_⟩|⟨a1,a2,a3⟩
 .omega
 have hi:a.toNat<RW m:=aa;have⟨p0,hp0⟩:=bD ((eZ m a.toNat c).natAbs);have p0pos:0<p0:=aa;have p0E:p0<=E:=by rw[hp0];exact hb _ _
 have⟨m1,h1⟩:=bD (lO m o a.toNat);have l1:RW m1=RW m:=by rw[h1,vh]
 have n1:Ln n m1:=by rw[h1];exact L4 hl ho hi
 have e1:∀k,nth [] m1 k=if k=a.toNat then nth [] m o else if k=o then nth [] m a.toNat else nth [] m k:=λk=>by grind[tJ]
 have b1:dC E m1:=by rw[h1];exact Qt ho hi hb
 have eo:eZ m1 o c=eZ m a.toNat c:=by
  simp only[eZ,e1];split
  .grind
  .rw[ip trivial]
 have SW:=Fe (n:=n) (c:=c) (o:=o) (RW m-(o+1)) (o+1) SM n1 aa aa (.inl aa);have SR:=JZ (n:=n) (c:=c) (o:=o) (RW m-(o+1)) (o+1) SM n1 aa aa (.inl aa);have⟨s2,hs2⟩:=bD (pU c o (RW m-(o+1)) (o+1) SM m1);rw[<-hs2]at SW SR;have⟨SW,_⟩:=SW
 have b2:dC (2*(E*E)) s2.2:=dC.mono (by
  rw[Zm,Y1];have:E*1<=E*E:=Z4 _ hE;omega) (JY (Q:=E) SW b1 λk q1 q2=>Z1 (XO aa) (b1 k c))
 have l2:s2.2.length=RW m:=by rw[SW.len,l1]
 have eo2:eZ s2.2 o c=eZ m1 o c:=by simp[eZ,SW.out o (.inl aa)]
 have step:∀f,oZ B c (f+1) o m=if s2.1=Th then oZ B c f o s2.2 else Wf (o+1,rQ c o o 0 (lS c o s2.2)):=λf=>by
  rw[Gk,ip hall,<-ha,iN hneg,<-h1,<-hs2]
 have q4:E*E*(E*E)*1<=E*E*(E*E)*E^6:=Z4 _ (Ll E hE 6);have q10:E*E*(E*E)*E^6=E^10:=by grind
 cases hbb:s2.1 with
 | false=>
  refine⟨1,_,_,by rw[step,hbb];rfl,?_,.inl rfl⟩;refine dC.mono ?_ (YI (c:=c) SW.ln aa aa b2);have:2*(2*(E*E))*(2*(E*E))=8*(E*E*(E*E)):=by grind
  omega
 | true=>
  rcases SR hbb with h|⟨k,q1,q2,q3⟩
  .cases h
  have val:∀k,o<k->k<RW m->eZ s2.2 k c=(eZ m1 k c).fmod (eZ m1 o c):=λk a b=>by
   rw[SW.inn k aa aa c,Int.fmod_def,Yi]
  obtain ⟨s,hs,sp0⟩:∃s:Int,(s=1∨s = -1)∧s*eZ m1 o c=p0:=by
   rw[eo];by_cases h:0<eZ m a.toNat c
   .exact⟨1,.inl rfl,aa⟩
   .exact⟨-1,.inr rfl,aa⟩
  have sg:∀k,0<=s*(eZ m1 k c).fmod (eZ m1 o c)∧s*(eZ m1 k c).fmod (eZ m1 o c)<p0:=λk=>by
   rcases hs with h|h
   .subst h;have:=Ia (a:=eZ m1 k c) (b:=eZ m1 o c) aa;omega
   .subst h;have:=XK (a:=eZ m1 k c) (b:=eZ m1 o c) aa;omega
  have S2:O0 n c o s (2*(E*E)) p0 s2.2:=⟨SW.ln,aa,hs,λk a b=>by
   by_cases hk:k=o
   .grind
   .rw[val k aa aa]
    grind,b2⟩
  have e2:1<=E*E:=by have:1*1<=E*E:=Zr hE hE;omega
  obtain ⟨f,o',m',g1,g2,g3⟩:=ag7 (B:=B) (W:=4*E^5) hW p0 S2 aa ⟨k,aa,aa,by rw[val k aa aa];exact q3,by
   rw[val k aa aa]
   grind⟩ (by
   calc 2*(2*(E*E))*(p0*p0)*p0<=2*(2*(E*E))*(E*E)*E:=Zr (Z4 _ (Zr p0E p0E)) p0E
    _=4*E^5:=by grind)
  exact ⟨f+1,o',m',ae,g2.mono (by
   have:2*(4*E^5)*(4*E^5)=32*E^10:=by grind
   omega),.inl g3⟩
def BS:Nat->Nat->Nat
 |0,d=>d
 |t+1,d=>BS t (10*d+2)
theorem ZL:∀t d,d<=BS t d
 |0,d=>Z8 _
 |t+1,d=>by have:=ZL t (10*d+2);grind[BS]
theorem aau{n B:Nat}:∀(r:Nat){c o d:Nat}{L:Nat->Nat}{m:Mz},Hm n c o L m->dC (10^d) m->BS (RW m-o) d<=B->∃f0,∀f,f0<=f->∃o' m',I6 B f r c o m=Wf (o',m')
 |0,c,o,d,L,m,H,hb,hd=>⟨0,λf _=>⟨o,m,rfl⟩⟩
 | r+1,c,o,d,L,m,H,hb,hd=>by
  by_cases ho:o<RW m
  .have e1:1<=10^d:=Nat.one_le_pow _ _ aa;have⟨t,ht⟩:∃t,RW m-o=t+1:=⟨RW m-o-1,aa⟩;rw[ht]at hd;have hd2:BS t (10*d+2)<=B:=hd;have:=ZL t (10*d+2)
   have hW:4*(10^d)^5<10^B:=by
    rw[<-Wc];have h1:10^(d*5+1)<=10^B:=Z2 aa aa;have h2:10^(d*5+1)=10^(d*5)*10:=Nat.pow_succ ..;have h3:1<=10^(d*5):=Nat.one_le_pow _ _ aa;omega
   have⟨f1,o1,m1,g1,g2,g3⟩:=aha (c:=c) H.ln ho e1 hb hW;have⟨⟨L1,H1⟩,s1,l1⟩:=MX f1 H ho g1
   have hb1:dC (10^(10*d+2)) m1:=g2.mono (by
    rw[<-Wc,Zq d 10,Yr];omega)
   have jz:∃d1,dC (10^d1) m1∧BS (RW m1-o1) d1<=B:=by
    rcases g3 with h|⟨h1,h2⟩
    .exact⟨_,hb1,by rw[l1,h,show RW m-(o+1)=t by omega];omega⟩
    .grind
   have⟨d1,b1,k1⟩:=jz;have⟨f2,hf2⟩:=aau r H1 b1 k1;refine⟨max f1 f2,λf hf=>?_⟩;have⟨o',m',h⟩:=hf2 f aa;refine⟨o',m',?_⟩
   show kG [] (λr=>r) (λ_ r=>r) B f (r+1) c o m=Wf (o',m')
   have hr:mn [] (λr=>r) (λ_ r=>r) B c f o m=Wf (o1,m1):=K6 f1 f g1 aa;simp[kG,ip ho,hr];exact h
  .refine⟨0,λf _=>⟨o,m,?_⟩⟩
   show kG [] (λr=>r) (λ_ r=>r) B f (r+1) c o m=Wf (o,m)
   grind[kG]
theorem M9(cols:Nat)(hl:Ln n m)(hm:RW m<=4)(hb:dC (10^9) m):∃f0,∀f,f0<=f->∃o m',m6 100000 f cols m=Wf (o,m'):=by have H:Hm n 0 0 (λ_=>0) m:=⟨aa,hl,λi hi=>by omega,λi j h1 h2=>by omega,λi hi=>by omega,λi hi=>by omega,λi j h1 h2=>by omega,λk a b j hj=>by omega⟩;refine aau (B:=100000) cols H hb ?_;have:RW m-0=0∨RW m-0=1∨RW m-0=2∨RW m-0=3∨RW m-0=4:=aa;rcases this with h|h|h|h|h<;>rw[h]<;>decide
theorem ak8(H:Hm n n (RW m) L m)(H':Hm n n (RW m') L' m')(e:iD m m'):m=m':=by
 have h:=VX (sW H (RW m) 0 0 aa (λ_=>Zb _)) (sW H' (RW m') 0 0 aa (λ_=>Zb _)) (λv=>by
  rw[sV H (Z8 _),sV H' (Z8 _)];exact e v)
 have eo:RW m=RW m':=by
  have:=RT RW h
  rwa [Bp,Bp]at this
 refine Wl eo λi h1 h2=>?_
 rw[<-eo]at h;have e1:m[i]=nth [] m i:=by rw[nth,Z6,List.getElem?_eq_getElem h1];rfl
 have e2:m'[i]=nth [] m' i:=by rw[nth,Z6,List.getElem?_eq_getElem h2];rfl
 rw[e1,e2];refine acn ?_ (Vd h i aa aa);rw[H.ln i h1,H'.ln i h2]
theorem aim(d:α)(l:List α)(h:i<o):nth d (l.take o) i=nth d l i:=by grind[nth]
theorem DW(H:Hm n n o L m):RW (m.take o)=o∧Hm n n o L (m.take o)∧iD m (m.take o):=by
 have hl:RW (m.take o)=o:=by rw[Zp];have:=H.le;omega
 have e:∀i,i<o->nth [] (m.take o) i=nth [] m i:=λi hi=>aim [] m hi
 have H2:Hm n n o L (m.take o):=
  ⟨aa,λi hi=>by rw[e i aa];exact H.ln i ae,H.lt,H.inc,λi hi=>by simp[eZ,e i hi];exact H.pos i hi,λi hi j hj=>by grind[Hm.low],
   λi j h1 h2=>by simp[eZ,e i aa,e j h2];exact H.red i j h1 h2,λk a b=>by omega⟩
 refine⟨hl,H2,λv=>?_⟩;have k1:=sV H (Z8 _) v;have k2:=sV H2 (Z8 _) v
 have k3:∀r i,i+r<=o->jy L (m.take o) r i=jy L m r i:=by
  intro r
  induction r with
  |zero=>intro i _;rfl
  |succ r ih=>intro i hi;simp[jy,e i aa,ih (i+1) aa]
 grind
theorem LI(l:aw)(k j:Nat):nth 0 (l.drop k) j=nth 0 l (k+j):=by simp[nth]
theorem OG(k:Nat)(r:aw):pK k r=Th↔(∃j,nth 0 r j≠0)∧∀j,j<k->nth 0 r j=0:=by
 unfold pK;cases h:r.findIdx? λz=>decide (z≠0)with
 | none=>
  simp only[Zg,false_iff];rintro⟨⟨j,hj⟩,_⟩;rw[List.findIdx?_eq_none_iff]at h;by_cases hl:j<RW r
  .grind[X2,nth.eq_1]
  .rw[nth,Z6,List.getElem?_eq_none aa]at hj;trivial
 | some i=>
  rw[List.findIdx?_eq_some_iff_getElem]at h;have⟨hi,h1,h2⟩:=h;simp only[dT]at h1 h2 ⊢;have g1:nth 0 r i=r[i]:=by rw[nth,Z6,List.getElem?_eq_getElem hi];rfl
  constructor
  .intro hk;refine⟨⟨i,aa⟩,λj hj=>?_⟩;have hjl:j<RW r:=aa
   grind[nth.eq_1]
  .rintro⟨_,h3⟩;exact Decidable.byContradiction λhn=>h1 (by rw[<-g1];exact h3 i aa)
theorem dJ.add{S:Ve->Prop}(hu:dJ n S u)(hv:dJ n S v):dJ n S λi=>u i+v i:=
 ⟨λw hw=>by rw[BQ,hu.1 w hw,hv.1 w hw];rfl,λj hj=>by show u j+v j=0;rw[hu.2 j hj,hv.2 j hj];rfl⟩
theorem dJ.mul{S:Ve->Prop}(k:Int)(hu:dJ n S u):dJ n S λi=>k*u i:=
 ⟨λw hw=>by rw[y9,hu.1 w hw,Int.mul_zero],λj hj=>by show k*u j=0;rw[hu.2 j hj,Int.mul_zero]⟩
theorem dJ.zero(n:Nat)(S:Ve->Prop):dJ n S λ_=>0:=⟨λw hw=>wQ w n,λ_ _=>rfl⟩
theorem dJ.spn{S:Ve->Prop}:∀{l:List Ve},(∀g∈l,dJ n S g)->∀{v},bV l v->dJ n S v:=λ{l} hl {v} hv=>by
 obtain⟨ks,rfl⟩:=hv
 induction l generalizing ks with
 |nil=>cases ks<;>exact dJ.zero n S
 | cons g l ih=>
  cases ks with
  |nil=>exact dJ.zero n S
  |cons k ks=>exact((hl g ac).mul k).add (ih (λx hx=>hl x ae) ks)
theorem QH(k:Nat):∀{l:List Ve}{v:Ve},bV l v->bV (l.map λg j=>g (k+j)) λj=>v (k+j):=λ{l v} hv=>by
 obtain⟨ks,rfl⟩:=hv;refine⟨ks,?_⟩
 induction l generalizing ks with
 |nil=>cases ks<;>rfl
 | cons g l ih=>
  cases ks with
  |nil=>rfl
  | cons k' ks=>
   grind[gr]
def mf(k:Nat)(m:Mz):Mz:=(m.filter (pK k)).map (List.drop k)
theorem aaX{k:Nat}(h:Ln (k+n) m):Ln n (mf k m):=by
 have:∀r∈mf k m,RW r=n:=λr hr=>by
  obtain⟨x,hx,rfl⟩:=Zw.1 hr;obtain⟨i,hi,rfl⟩:=Zj.1 (Xw.1 hx).1;have:=h i hi
  grind[nth.eq_1]
 intro i hi
 grind[nth.eq_1]
theorem Jv(n:Nat)(m:Mz):Ln (RW m+n) (iE n m):=λi hi=>by
 grind[zD,Pi]
theorem apM{w:Mz}(H:Hm (RW m+n) (RW m+n) o L w)(e:iD (iE n m) w)(v:Ve):eT (mf (RW m) (w.take o)) v↔dJ n (eT m) v:=by
 have⟨tl,H2,e2⟩:=DW H;have sp:∀u,eT (w.take o) u↔j8 n m u:=λu=>(((e.trans e2) u).symm).trans (Ph u)
 constructor
 .refine λh=>dJ.spn (λg hg=>?_) h
  obtain⟨r,hr,rfl⟩:=Zw.1 hg;obtain⟨x,hx,rfl⟩:=Zw.1 hr;have⟨hx,hb⟩:=Xw.1 hx;have hb:=((OG _ _).1 hb).2;have hw:=(sp (ve x)).1 (bV.mem (Zw.2 ⟨x,hx,rfl⟩));have ev:ve (x.drop (RW m))=λc=>ve x (RW m+c):=funext λj=>LI x (RW m) j
  rw[ev];refine⟨λu hu=>?_,λj hj=>hw.2 _ aa⟩;refine Ec (λg hg=>?_) hu;obtain⟨r,hr,rfl⟩:=Zw.1 hg;obtain⟨i,hi,rfl⟩:=Zj.1 hr;have e1:m[i]=nth [] m i:=by rw[nth,Z6,List.getElem?_eq_getElem hi];rfl
  rw[e1,<-hw.1 i hi];exact hb i hi
 .intro h
  let u:Ve:=λj=>if j<RW m then 0 else v (j-RW m)
  have hsh:(λj=>u (RW m+j))=v:=funext λj=>by
   grind
  have hw:j8 n m u:=by
   refine⟨λi hi=>?_,λj hj=>?_⟩
   .rw[hsh,h.1 _ (ko hi)]
    grind
   .show(if j<RW m then 0 else v (j-RW m))=0
    rw[iN aa];exact h.2 _ aa
  have h1:=(sp u).2 hw;rw[<-sV H2 (Z8 _)]at h1;have h2:=MW (sW H2 o 0 0 aa (λ_=>Zb _)) (RW m) h1 (λj hj=>ip hj);have h3:=QH (RW m) h2;rw[hsh]at h3;refine bV.le (λg hg=>?_) h3;obtain⟨g',hg',rfl⟩:=Zw.1 hg;obtain⟨x,hx,rfl⟩:=Zw.1 hg';have⟨hx,hk⟩:=Xw.1 hx;obtain⟨i,_,hi,rfl⟩:=yC hx
  have hk:RW m<=L i:=by simpa using hk
  have DE:i<RW (w.take o):=aa;refine bV.mem (Zw.2 ⟨(nth [] (w.take o) i).drop (RW m),?_,funext λj=>LI _ _ _⟩);refine Zw.2 ⟨_,Xw.2 ⟨?_,(OG _ _).2 ⟨⟨L i,?_⟩,λj hj=>H2.low i aa j aa⟩⟩,rfl⟩
  .grind[nth.eq_1]
  .have:=H2.pos i aa
   grind
theorem ak9(n:Nat):Hm n n 0 (λ_=>0) []:=
 have z:∀{i:Nat}{P:Prop},i<0->P:=λh=>absurd h (Nat.not_lt_zero _)
 ⟨Z8 _,λi hi=>z hi,λi hi=>z hi,λi j _ hj=>z hj,λi hi=>z hi,λi hi=>z hi,λi j _ hj=>z hj,λk _ hk=>z hk⟩
theorem XC{B f:Nat}{w:Mz}(hl:Ln n m)(h:m6 B f n m=Wf (o,w)):(∃L,Hm n n (RW (w.take o)) L (w.take o))∧iD m (w.take o):=by
 have⟨⟨L,H⟩,e,_⟩:=HY hl h;have⟨tl,H2,e2⟩:=DW H
 grind[iD.trans]
theorem HI{B f:Nat}{z:Mz}(h:k8 B f n m=Wf z):(∃L,Hm n n (RW z) L z)∧∀v,eT z v↔dJ n (eT m) v:=by
 unfold k8 at h;split at h
 .rename_i o w hw;have⟨⟨L,H⟩,e,_⟩:=HY (Jv n m) hw;have bs:=apM H e;have ln:=aaX (DW H).2.1.ln
  have hb:Ev B f (RW m) n (w.take o)=if mf (RW m) (w.take o)=[]then Wf []else match m6 B f n (mf (RW m) (w.take o))with
   |some (o,w)=>Wf (w.take o)
   |none=>Vc:=rfl
  rw[hb]at h;split at h
  .rename_i h0;cases h;rw[h0]at bs;exact⟨⟨λ_=>0,ak9 n⟩,bs⟩
  .split at h
   .rename_i o2 w2 hf;cases h;have⟨H3,e3⟩:=XC ln hf;exact⟨H3,λv=>((e3 v).symm).trans (bs v)⟩
   .cases h
 .cases h
end Go.Vm
