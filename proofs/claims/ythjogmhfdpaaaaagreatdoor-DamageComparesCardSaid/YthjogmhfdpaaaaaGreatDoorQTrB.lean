/- Lemmas. -/
import Derived.Test.YthjogmhfdpaaaaaGreatDoorQFa
set_option linter.unusedVariables false
set_option linter.unusedSimpArgs false
open Option renaming some->Wf,none->Vc
open Bool renaming true->Th,false->SM
open Go renaming IntKind->iK
open List renaming replicate->So,length->RW
namespace Go.Vm
open Go Go.Am Go.Big
variable{p:aw}{c w:Mz}
variable{z:Int}{m m':Mz}{i n k o o' j E E' M:Nat}{s:List Q}{f:Tg->List Q}{t:Tg}{b0 b1:Nat×Bk}{α:Type}{L L':Nat->Nat}
theorem agX{a:Q}(h:gE a):gE (jm a):=⟨h.1,by simp[jm,X0];exact h.2⟩
theorem agY{a:Q}{K:Nat}(h:qL K a):qL K (jm a):=⟨by simp[jm,X0];exact h.1,h.2⟩
theorem alI{a:Q}(la:qL 100000 a):Ds F.Bz [.agg (qT a)] (.agg (qT (jm a))):=by apply alw;have n1:=Dg (z:=a.1) (by have:=la.1;omega);simp only[Bz,qT,jm];simp;refine cd n1 ?_;simp;simp[nh]
theorem alG{a b:Q}(ha:gE a)(hb:gE b)(la:qL 50000 a)(lb:qL 50000 b):Ds F.Bw [.agg (qT a),.agg (qT b)] (.agg (qT (dZ a (jm b)))):=by
 apply als;have n1:=alI (a:=b) (lb.mono aa);have n2:=MS ha (agX hb) (la.mono aa) ((agY lb).mono aa);have⟨x,y,hxy⟩:∃x y,qT (dZ a (jm b))=[S x,S y]:=⟨_,_,rfl⟩;have⟨x2,y2,hxy2⟩:∃x y,qT (jm b)=[S x,S y]:=⟨_,_,rfl⟩;rw[hxy,hxy2]at n2;rw[hxy2]at n1;rw[hxy];simp[qT]at n1 n2 ⊢;simp only[Bw];simp
 refine cd n1 ?_ aN;simp;refine cd n2 ?_ aN;simp;simp[nh]
def fN(s:List Q):bF:=(s.map tx).flatMap bb
theorem CW(s:List Q):RW (fN s)=RW s*2:=by rw[fN,jy bb dV,List.length_map]
theorem ahd(s:List Q)(k:Q):fN (s++[k])=fN s++bb (tx k):=by simp[fN]
theorem C8(h : -1000000000<=z∧z<=1000000000):gE (z,1)∧qL 30 (z,1):=ah1 z aa aa
theorem amc(h : -1000000000<=z∧z<=1000000000):Ds F.sL [I z,I 1] (.tup [.agg (qT (z,1)),I 0]):=by
 have:=MR (n:=z) (d:=1) au aa aa au au
 grind[Ub]
def xZ:Acc:=⟨1,0,2,.none⟩
theorem ahZ(a:aw)(z:Int):fB (a++[z])=fB a++[(z,1)]:=by simp[fB]
theorem vW(a:aw):RW (fB a)=RW a:=by simp[fB]
theorem Tm{r:aw}(hr:nL r)(hn:RW r<1000)(x0 y0:Bk)(K:KL):∀(q a:aw),r=a++q->K (.exit 0) [xZ.v (RW r) (fN (fB r))] [ah,xZ.b (RW r) (fN (fB r))] ->
  lp (ES DA (ai di r) (I (RW r))) [0] [(0,x0),(0,y0)] [xZ.v (RW a) (fN (fB a)),I (RW a)] [ah,xZ.b (RW a) (fN (fB a))] K
 | [],a,e,hK=>by
  simp[Zn]at e;subst e;apply aL;have PJ:¬((RW r:Int)<(RW r:Int)):=aa
  simp_all[ES]
 | z::q,a,e,hK=>by
  apply aL;have PJ:((RW a:Int)<(RW r:Int)):=by rw[e];simp;omega
  have DQ:RW a<RW r:=aa;have hz:=hr z ae;have i1:∀h:Hp,bq h 1 (ai di r) (I (RW a))=Wf (.dptr (r.map di) (RW a)):=λh=>by simp_all
  have i2:∀h:Hp,ld1 h (.dptr (r.map di) (RW a))=Wf (I z):=λh=>by
   simp_all
  have lq:∀H,cL 1 [D.str [],D.str []] [(0,.agg (qT (z,1)))] H=Wf (bb (tx (z,1)),H):=λH=>Dq _ H
  have ih:=Tm hr hn x0 y0 K q (a++[z]) ae hK;have ee:fN (fB (a++[z]))=fN (fB a)++bb (tx (z,1)):=by rw[ahZ,ahd]
  rw[List.length_append,List.length_singleton,ee]at ih;have e4:((RW a+1:Nat):Int)=(RW a:Int)+1:=aa;rw[e4]at ih;simp[qT]at lq;simp only[ES];simp[PJ,i1,i2];refine cd (amc hz) ?_;simp only[qT];simp[lq];refine mG xZ (Nd:=32) (k:=1) (cs:=bb (tx (z,1))) aa rfl (by rw[CW,vW];rfl) rfl rfl ae aa au ?_
  simp(disch:=omega) [];rw[<-List.length_append];trivial
theorem Tn{r:aw}(hr:nL r)(hn:RW r<1000):Ds F.xh [ai di r] (aW (fB r)):=by
 apply acS;have l1:bf (ai di r)=Wf (I (RW r)):=rfl;simp only[xh];simp[l1];refine lo (Tm hr hn _ _ _ r [] rfl ?_);simp;have ll:RW ((fB r).map tx)=RW r:=by simp[fB]
 have:=OH xZ (L:=RW r) (cells:=fN (fB r)) (h:=[ah,xZ.b (RW r) (fN (fB r))]) rfl (by rw[CW,vW];rfl)
 grind[aW,de,fN]
theorem Sf(a b:Nat):RW ((So a zT++So b gK).flatMap bb)=(a+b)*2:=by rw[jy bb dV];simp
theorem alE(t:Tx){m:Nat}(h:m<=i):((So i t).flatMap bb).take (m*2)=(So m t).flatMap bb:=by obtain⟨d,rfl⟩:=Nat.exists_eq_add_of_le h;rw[<-List.replicate_append_replicate,Yx,List.take_append_of_le_length (by simp[dV]),Zy (by simp[dV])]
theorem alF(t:Tx){m:Nat}(h:m<=i):((So i t).flatMap bb).drop (m*2)=(So (i-m) t).flatMap bb:=by obtain⟨d,rfl⟩:=Nat.exists_eq_add_of_le h;rw[<-List.replicate_append_replicate,Yx,List.drop_append_of_le_length (by simp[dV]),List.drop_of_length_le (by simp[dV]),List.nil_append,Nat.add_sub_cancel_left]
theorem BB(t:Tx)(i:Nat):RW ((So i t).flatMap bb)=i*2:=by rw[jy bb dV,Y6]
@[simp ↓] theorem arD (h:Hp)(n:Nat)(x y:V)(k:bH):sS h n x y k=rh (sS h n x y) k .mk:=id rfl
theorem ZQ{h:Hp}{n i r j m cap:Nat}(hi:i+r=n)(hm:min j r=m)(m0:0<m){y:V}(hy:cellsOf (hz h (So i zT++So r gK)) y=Wf (j,(So j zT).flatMap bb)){k:bH}{u:PU k}
  (hk:k (I m) (hz h (So (i+m) zT++So (r-m) gK))):rh (sS (hz h (So i zT++So r gK)) 2 (.ref (RW h) 1 (i*2) r cap (n*2)) y) k u:=by
 show sS _ 2 _ y k
 have hl:RW ((So i zT++So r gK).flatMap bb)=n*2:=by rw[Sf,hi]
 have mj:m<=j:=aa;have mr:m<=r:=aa;unfold sS;simp only[ig (DL h _),hy,hm];rw[ip ⟨⟨m0,cU,aa,cU⟩,hl.symm,BB _ _,aa⟩];have a1:=BB zT i
 have p1:List.take (i*2) ((So i zT++So r gK).flatMap bb)=(So i zT).flatMap bb:=by
  rw[Yx,List.take_append_of_le_length aa,Zy aa]
 have p2:List.drop (i*2) ((So i zT++So r gK).flatMap bb)=(So r gK).flatMap bb:=by
  rw[Yx,List.drop_append_of_le_length aa,List.drop_of_length_le aa,List.nil_append]
 have e:(List.take (i*2) ((So i zT++So r gK).flatMap bb)++List.take (m*2) ((So j zT).flatMap bb)++List.drop (i*2+m*2) ((So i zT++So r gK).flatMap bb))=(So (i+m) zT++So (r-m) gK).flatMap bb:=by
  rw[p1,alE zT mj,<-List.drop_drop,p2,alF gK mr,Yx,<-List.replicate_append_replicate,Yx]
 grind[MD,bP.eq_1]
theorem Se{h:Hp}{n:Nat}(hn:n<10)(K:KL)(h0:Hp):∀(f i r:Nat),r<=f->0<i->i+r=n->K (.exit 0) [] (hz h (So n zT)) ->
  lp (Cx DA (RW h) (.ref (RW h) 1 0 n n (n*2))) [] h0 [I i] (hz h (So i zT++So r gK)) K
 | f,i,0,hf,hi0,hi,hK=>by
  have:i=n:=aa;subst this;apply aL;have l1:bf (.ref (RW h) 1 0 i i (i*2))=Wf (I i):=rfl;have PJ:¬((i:Int)<(i:Int)):=aa
  simp_all[Cx]
 |0,i,r+1,hf,hi0,hi,hK=>by omega
 | f+1,i,r+1,hf,hi0,hi,hK=>by
  apply aL;have l1:bf (.ref (RW h) 1 0 n n (n*2))=Wf (I n):=rfl;have PJ:((i:Int)<(n:Int)):=aa;simp only[Cx];have hl:RW ((So i zT++So (r+1) gK).flatMap bb)=n*2:=by rw[Sf,hi]
  have hg:=ig (DL h (So i zT++So (r+1) gK))
  have s1:gU (hz h (So i zT++So (r+1) gK)) 2 (V.ref (RW h) 1 0 n n (n*2)) (Wf (I i)) Vc=Wf (.ref (RW h) 1 (i*2) (r+1) (r+1) (n*2)):=by
   have b1:eD 0 n (Wf (I (i:Int)))=Wf i:=by
    show(if(0:Int)<=i∧(i:Int)<=(n:Int)then Wf (i:Int).toNat else Vc)=_
    rw[ip ⟨aa,aa⟩,Int.toNat_natCast]
   simp only[gU,hg,eD,b1]
   show(match eD 0 n (Wf (I (i:Int)))with|some i=>_|none=>Vc)=_
   rw[b1];simp only;rw[ip ⟨hl.symm,Z8 _,cU⟩,Zh,show n-i=r+1 by omega]
  have s2:gU (hz h (So i zT++So (r+1) gK)) 2 (V.ref (RW h) 1 0 n n (n*2)) Vc (Wf (I i))=Wf (.ref (RW h) 1 0 i n (n*2)):=by
   have b1:eD n n (Wf (I (i:Int)))=Wf i:=by
    show(if(0:Int)<=i∧(i:Int)<=(n:Int)then Wf (i:Int).toNat else Vc)=_
    rw[ip ⟨aa,aa⟩,Int.toNat_natCast]
   simp only[gU,hg,b1]
   show(match eD 0 i Vc with|some i'=>_|none=>Vc)=_
   rw[show eD 0 i Vc=Wf 0 from rfl];simp only;rw[ip ⟨hl.symm,Z8 _,cU⟩];simp
  have hc:cellsOf (hz h (So i zT++So (r+1) gK)) (.ref (RW h) 1 0 i n (n*2))=Wf (i,(So i zT).flatMap bb):=by
   simp only[cellsOf,hg];rw[ip ⟨hl.symm,aa⟩,Yz,Yx,List.take_append_of_le_length (by grind[BB]),Zy (by grind[BB])]
  simp[l1,PJ,s1,s2];refine ZQ (m:=min i (r+1)) hi rfl aa hc ?_;have⟨m,hm⟩:=bD (min i (r+1));rw[<-hm];have ih:=Se hn K h0 f (i+m) (r+1-m) aa aa aa hK;simp(disch:=omega) []
  grind[kh,lo]
theorem agI{h:Hp}(hu:(h.all λx=>cg (RW h) x.2)=Th)(h1:0<n)(hn:n<10):CI Y F.xq [.d (.sl 1 (bb zT)),I n] h (.new 2 ((So n zT).flatMap bb) Th n n) h:=by
 apply aex;have mu:=aiu (n:=n) hn;have nn:¬((n:Int)<0):=aa;simp only[xq];have w1:iK.u64.wrap (n:Int)=n:=wrap_u64 aa;have v1:bf (.d (.sl 1 (bb zT)))=Wf (I 1):=rfl;have v2:fq iK.u64 (I 1)=Wf (.d (.int .u64 1)):=rfl;simp[nn];apply cx;rw[w1];simp[v1,v2];refine cd mu ?_ aN
 simp;apply cx;simp(disch:=omega) [];refine TN (e:=0) (b:=.none) ac aa ?_;have e0:(h++[(0,Bk.none)]).set (RW h) (0+1,.data 2 ((So n gK).flatMap bb) Th SM)=hz h (So 0 zT++So n gK):=by simp[hz]
 rw[e0]
 have c1:=ZQ (h:=h) (n:=n) (i:=0) (r:=n) (j:=1) (m:=1) (cap:=n) (y:=.d (.sl 1 (bb zT))) (k:=λv18 h_2=>
    lp (Cx DA (RW h) (.ref (RW h) 1 0 n n (n*2))) [] h_2 [v18] h_2
     (aV [(Exit.exit 0,λl19 h_3=>fx (RW h) (V.new 2 (List.flatMap bb (So n zT)) Th n n) h (.ref (RW h) 1 0 n n (n*2)) h_3)])) (u:=.mk) aa aa aa aN ?_
 .exact c1
 refine Se hn _ _ n 1 (n-1) aa aa aa ?_;have hfl:=BB zT n;refine⟨by simp[hz],?_,.inr (.inr (.inl ⟨RW h,1,n,n,2,(So n zT).flatMap bb,true,by rw[hfl],Z8 _,?_,rfl⟩))⟩
 .omega
 .simp[hz,aH]
theorem ZW{h:Hp}{s fs:List Q}{k:Q}{i:Nat}(hi:i<RW fs)(hki:nth ([],[]) (fs.map tx) i=tx k)(hf:RW fs<1000000)(hN:RW s<1000000){Ko Ks Kk:Nat}(hk:gE k)(lk:qL Kk k)
  (b1:Ko<=100000) (b2:Ks+Kk<=100000) (h0:Hp) (kk:KL):∀(q a oq a':List Q),a++q=s->RW a'=RW a->RW oq=RW q->fJ Ko oq->fJ Ks q->kk (.exit 2) [] (hz h ((a'++iV k oq q).map tx)) ->
  lp (ET DA (RW h) (aW fs) (.ref (RW h) 1 0 (RW s) (RW s) (RW s*2)) (I i) (aW s) (I (RW s))) [] h0 [I (RW a)] (hz h ((a'++oq).map tx)) kk
 | [],a,oq,a',ha,h1,h2,ho,hs,hkk=>by
  simp[Zn]at ha;simp only[List.length_nil]at h2;have h2':oq=[]:=Zo h2;subst ha h2';have PJ:¬((RW a:Int)<(RW a:Int)):=aa;apply aL
  simp_all[ET,iV]
 |x::q,a,[],a',ha,h1,h2,ho,hs,hkk=>by simp at h2
 | x::q,a,y::oq,a',ha,h1,h2,ho,hs,hkk=>by
  have DQ:RW a<RW s:=by subst ha;simp
  have⟨o1,o2⟩:=ho y ac;have⟨s1,s2⟩:=hs x ac;have Rg:RW ((a'++y::oq).map tx)=RW s:=by subst ha;simp at h2 ⊢;omega
  have mul:=WI s1 hk (s2.mono aa) (lk.mono aa);have add:=MS o1 (KS s1 hk) (o2.mono b1) ((KT s2 lk).mono aa);have g1:(RW a:Int)<(RW s:Int):=aa;have hx:nth ([],[]) (s.map tx) (RW a)=tx x:=by subst ha;exact pV ..
  have hy:nth ([],[]) ((a'++y::oq).map tx) (RW a)=tx y:=by rw[<-h1];exact pV ..
  have i1:=λh:Hp=>kX bb dV (s.map tx) h (k:=.i64) (i:=(RW a:Int)) aa ae
  have i2:=λh:Hp=>kV bb dV ([],[]) (s.map tx) h (j:=RW a) ae
  have j1:=λh:Hp=>kX bb dV (fs.map tx) h (k:=.i64) (i:=(i:Int)) aa ae
  have j2:=λh:Hp=>kV bb dV ([],[]) (fs.map tx) h (j:=i) ae
  simp[hx,hki,Int.toNat_natCast]at i1 i2 j1 j2;have hg:=DL h ((a'++y::oq).map tx);have e1:=HA hg Rg (c:=RW a) DQ .i64;have e2:=L0 hg Rg (c:=RW a) DQ;have e3:=Fb hg Rg (c:=RW a) DQ (tx (dZ y (ik x k)))
  have es:((a'++y::oq).map tx).set (RW a) (tx (dZ y (ik x k)))=((a'++[dZ y (ik x k)])++oq).map tx:=by
   have:=Kn (a'.map tx) (tx y) (tx (dZ y (ik x k))) (oq.map tx);rw[List.length_map,h1]at this;simpa using this
  simp only[hy,es,MD]at e2 e3;have ih:=ZW (h:=h) hi hki hf hN hk lk b1 b2 h0 kk q (a++[x]) oq (a'++[dZ y (ik x k)]) ae ae ae (λw hw=>ho w ae) (λw hw=>hs w ae) (by grind[iV]);have e4:((RW (a++[x]):Nat):Int)=(RW a:Int)+1:=ac;rw[e4]at ih;simp[qT]at mul add;have⟨w1,w2,hw⟩:∃w1 w2,qT (ik x k)=[S w1,S w2]:=⟨_,_,rfl⟩
  have z1:aW s=de bb (s.map tx):=rfl;have z2:aW fs=de bb (fs.map tx):=rfl;generalize hz h ((a'++y::oq).map tx)=H0 at *;generalize hz h ((a'++[dZ y (ik x k)]++oq).map tx)=H1 at *;apply aL;simp only[ET];simp[z1,z2,i1,i2,j1,j2,e1,e2,g1];refine cd mul ?_ aN;simp;refine cd add ?_ aN
  have e3':st H0 2 (V.ptr (RW h) 1 (RW a*2) (RW s*2)) (.agg [S (itoa (dZ y (ik x k)).fst),S (aA (dZ y (ik x k)).snd)])=Wf H1:=e3;simp(disch:=omega) [e1,e3']
  grind[kh,lo]
theorem ZU{h:Hp}{n:Nat}{fs:List Q}(hf:RW fs<1000000)(hN:n<1000000){Ks Kk:Nat}(b2:Ks+Kk<=90000)(h0:Hp)(kk:KL):∀(l a:List (List Q))(q f:List Q)(o:List Q)(Ko:Nat),f++q=fs->RW f=RW a->RW l=RW q->Ko+RW l*(Ks+Kk+1)<=100000 ->
  (RW o)=n->fJ Ko o->(∀s∈l,RW s=n∧fJ Ks s)->fJ Kk q->kk (.exit 0) [] (hz h ((m8 o l q).map tx)) ->
  lp (EU DA (RW h) (aW fs) (.ref (RW h) 1 0 n n (n*2)) (ai bQ (a++l)) (I (RW (a++l)))) [] h0 [I (RW a)] (hz h (o.map tx)) kk
 | [],a,q,f,o,Ko,hfq,h1,h2,b1,hn,ho,hl,hq,hkk=>by
  have PJ:¬((RW a:Int)<(RW (a++[]):Int)):=ac;apply aL;simp only[EU];simp[PJ]
  grind[m8]
 |s::l,a,[],f,o,Ko,hfq,h1,h2,b1,hn,ho,hl,hq,hkk=>by simp at h2
 | s::l,a,k::q,f,o,Ko,hfq,h1,h2,b1,hn,ho,hl,hq,hkk=>by
  have⟨s1,s2⟩:=hl s ac;have⟨k1,k2⟩:=hq k ac;have hLl:(RW l+1)*(Ks+Kk+1)=RW l*(Ks+Kk+1)+(Ks+Kk+1):=X3 ..;rw[List.length_cons,hLl]at b1;have hb:RW (a++s::l)<1000000:=by simp at h2 ⊢;subst hfq;simp at hf;omega
  have g1:(RW a:Int)<(RW (a++s::l):Int):=by simp;omega
  have i1:=λh:Hp=>mn bQ (a++s::l) h (k:=.i64) (i:=(RW a:Int)) aa g1
  have i2:=λh:Hp=>mS bQ [] (a++s::l) h (j:=RW a) ac
  have hnt:nth [] (a++s::l) (RW a)=s:=ac;simp only[hnt,Int.toNat_natCast]at i1 i2;have hlv:bf (.ref (RW h) 1 0 n n (n*2))=Wf (I n):=rfl;have hki:nth ([],[]) (fs.map tx) (RW a)=tx k:=by rw[<-hfq,<-h1];exact pV ..
  have hi:RW a<RW fs:=by rw[<-hfq];simp;omega
  simp only[E5]at i2;have ih:=ZU (h:=h) hf hN b2 h0 kk l (a++[s]) q (f++[k]) (iV k o s) (Ko+(Ks+Kk)+1) ae ae ae aa (by rw[zg k o s (hn.trans s1.symm),s1]) (IZ k1 k2 ho s2) (λt ht=>hl t ae) (λt ht=>hq t ae) cU;have e4:((RW (a++[s]):Nat):Int)=(RW a:Int)+1:=ac;have e5:a++[s]++l=a++s::l:=ac
  rw[e4,e5]at ih;generalize a++s::l=L at *;apply aL;simp only[EU];simp[i1,i2,g1,hlv];subst s1;refine lo (ZW hi hki hf hN k1 k2 (Ko:=Ko) (Ks:=Ks) aa aa _ _ s [] o [] rfl rfl hn ho s2 ?_);simp(disch:=omega) []
  grind[kh,lo]
theorem aof{h:Hp}(hu:(h.all λx=>cg (RW h) x.2)=Th){p:aw}{l:List (List Q)}{fs:List Q}{Ks Kk:Nat}(h0:0<RW p)(hN:RW p<10)(hf:RW fs<1000000)(Rg:RW l=RW fs)(b2:Ks+Kk<=90000)(b1:1+RW l*(Ks+Kk+1)<=100000)
  (hl:∀s∈l,RW s=RW p∧fJ Ks s) (hq:fJ Kk fs):CI Y F.xi [ai di p,ai bQ l,aW fs] h (.new 2 (fN (gC (RW p) l fs)) Th (RW p) (RW p)) h:=by
 apply acV
 have hu1:((h++[(0,Bk.none)]).all λx=>cg (RW (h++[(0,Bk.none)])) x.2)=Th:=by
  simp only[Yn,Z7];refine⟨?_,rfl⟩;rw[Zz]at hu ⊢;intro x hx;exact EO ac (hu x hx)
 have zi:=agI hu1 (n:=RW p) h0 hN;have l1:bf (ai di p)=Wf (I (RW p)):=rfl;have l2:bf (ai bQ l)=Wf (I (RW l)):=rfl;simp only[xi]
 have li:∀H:Hp,cL 1 [D.str [],D.str []] [(0,V.agg [V.d (D.str [48]),V.d (D.str [49])])] H=Wf (bb zT,H):=λH=>by
  have q1:itoa 0=[48]:=du;have q2:aA 1=[49]:=du;have:=Dq (0,1) H;simp[qT,q1,q2]at this;exact this
 simp[l1,l2,li];refine ij (jQ (e:=0) (b:=.none) zi ac ?_);have e0:(h++[(0,Bk.none)]).set (RW h) (0+1,.data 2 ((So (RW p) zT).flatMap bb) Th SM)=hz h ((So (RW p) (0,1)).map tx):=by simp[hz,zT]
 rw[e0,BB];have hz':fJ 1 (So (RW p) ((0,1):Q)):=EI (RW p);refine ZU (n:=RW p) hf aa b2 _ _ l [] fs [] _ 1 rfl rfl Rg b1 ac hz' hl hq ?_;simp
 have hln:RW (gC (RW p) l fs)=RW p:=by
  unfold gC;rw[u5 (λs hs=>by grind)];simp
 have hfl:RW (fN (gC (RW p) l fs))=RW p*2:=by rw[CW,hln]
 refine⟨by simp[hz],?_,.inr (.inr (.inl ⟨RW h,1,RW p,RW p,2,fN (gC (RW p) l fs),true,by rw[hfl],Z8 _,?_,rfl⟩))⟩
 .omega
 .simp[hz,aH,fN,gC]
def bG(p:aw)(c w:Mz)(g:List (List Q)):bA:=[ai di p,bh c,bh w,ai bQ g]
def cG(p:aw)(c w:Mz)(g:List (List Q)):V:=.agg (bG p c w g)
structure pC(p:aw)(c w:Mz)(g:List (List Q)):Prop where
 tp:w7 p c w
 gl:RW g=RW w
 gs:∀s∈g,RW s=RW p∧jN s
variable{p:aw}{c w:Mz}{g:List (List Q)}
theorem EW(h:pC p c w g):Ds F.pI [cG p c w g] (I 0):=by
 apply acY;have hn:=h.tp.lc.n12;have hwl:=h.tp.lw.ml;have hgl:=h.gl;have a1:=PE h.tp;have a2:=N3 (p:=p) (l:=g) aa aa (λs hs=>⟨(h.gs s hs).2,by grind[pC.gs]⟩);rw[ip h.tp.pr,IR λs hs=>(h.gs s hs).1]at a2;have l1:bf (ai bQ g)=Wf (I (RW g)):=rfl;have l2:bf (bh w)=Wf (I (RW w)):=rfl
 have g1:((RW g:Int)=(RW w:Int))=True:=eq_true aa;simp only[pI,cG,bG];simp;refine cd (args:=[jT p c w]) a1 ?_ aN;simp[l1,l2,g1];refine cd a2 ?_ aN;simp
theorem acZ(hp:d8 p=0)(hN:RW p<1000000)(hl:RW s=RW p)(hs:jN s):Ds F.zE [ai di p,aW s] (.tup [aW s,I 0]):=by apply acR;simp only[zE];simp;refine cd (aai hp hN hl hs) ?_ aN;simp;exact⟨_,rfl⟩
def pK(p:aw)(w:Mz)(g:List (List Q))(x:aw):List Q:=gC (RW p) g (fB (fj w x))
structure abk(p:aw)(w:Mz)(x:aw):Prop where
 l:RW x=RW p
 s:nV x=Th
 b:nL x
 r:mN x=0
 t:nL (fj w x)
theorem ads{h:Hp}(hu:(h.all λx=>cg (RW h) x.2)=Th)(ht:pC p c w g)(hp10:RW p<10){x:aw}(hx:abk p w x):CI Y F.xg [cG p c w g,ai di x] h (.tup [.new 2 (fN (pK p w g x)) Th (RW p) (RW p),I 0]) h:=by
 apply acO;have hn:=ht.tp.lc.n12;have hwl:=ht.tp.lw.ml;have hgl:=ht.gl;have a1:=EW ht;have a2:=TM (p:=p) (r:=x) aa;rw[aip ht.tp.pr hx.l hx.s]at a2;have a3:=apX ht.tp hx.l hx.b hx.r hx.t;have tl:RW (fj w x)=RW w:=by simp[fj]
 have a4:=Tn hx.t aa
 have hu1:((h++[(1,Bk.vars (bG p c w g)),(0,Bk.none)]).all λx=>cg (RW (h++[(1,Bk.vars (bG p c w g)),(0,Bk.none)])) x.2)=Th:=by
  simp only[Yn,Z7];refine⟨?_,rfl⟩;rw[Zz]at hu ⊢;intro x hx;exact EO ac (hu x hx)
 have ok1:fJ 30 (fB (fj w x)):=λy hy=>by
  obtain⟨z,hz,rfl⟩:=Zw.1 hy;exact C8 (hx.t z hz)
 have a5:=aof (p:=p) (l:=g) (fs:=fB (fj w x)) hu1 (Ks:=30) (Kk:=30) ht.tp.lc.n0 hp10 (by grind[vW]) (by grind[vW]) aa aa (λs hs=>ht.gs s hs) ok1;have e0:(h++[(0,Bk.none),(0,Bk.none)])[RW h]?=Wf (0,Bk.none):=ac;have es:(h++[(0,Bk.none),(0,Bk.none)]).set (RW h) (1,.vars (bG p c w g))=h++[(1,Bk.vars (bG p c w g)),(0,Bk.none)]:=ac
 have hx1:iR (h++[(1,Bk.vars (bG p c w g)),(0,Bk.none)]) (RW h) 1=.vars (bG p c w g):=by simp[iR,aH]
 have hs1:(h++[(1,Bk.vars (bG p c w g)),(0,Bk.none)])[RW h+1]?=Wf (0,Bk.none):=ac
 have hf:∀y,(h++[(1,Bk.vars (bG p c w g)),(0,Bk.none)]).set (RW h+1) y=h++[(1,Bk.vars (bG p c w g)),y]:=λy=>by
  simp
 simp only[xg,cG];simp only[bG]at *;simp[e0,es,hx1];have⟨H1,hH⟩:=bD (h++[(1,Bk.vars [ai di p,bh c,bh w,ai bQ g]),(0,Bk.none)]);rw[<-hH]at a5 hx1 hs1 hf ⊢;refine cd (args:=[cG p c w g]) a1 ?_ aN;simp[hx1];refine cd a2 ?_ aN;simp[hx1];refine cd (args:=[jT p c w,ai di x]) a3 ?_ aN;simp[hx1];refine cd a4 ?_ aN;simp[hx1]
 refine ij (jQ (e:=0) (b:=.none) a5 hs1 ?_);rw[hf]
 have hln:RW (gC (RW p) g (fB (fj w x)))=RW p:=by
  unfold gC;rw[u5 (λs hs=>by grind[pC.gs])];simp
 have hfl:RW (fN (pK p w g x))=RW p*2:=by rw[CW,pK,hln]
 simp;refine⟨ac,?_,.inr (.inr (.inr (.inr (.inl ⟨RW h+1,1,RW p,RW p,2,fN (pK p w g x),true,.int .i64 0,aN,Nat.le_succ _,?_,rfl⟩))))⟩
 .omega
 .simp[aH];rfl
def lS(p:aw)(w:Mz)(g:List (List Q))(x:aw):List Q:=List.zipWith (λa z=>dZ a (jm (z,1))) (pK p w g x) x
def mV(C:bA)(x2:Nat×Bk)(s:List Q):Hp:=[(1,.vars C),(1,.data 2 ((s.map tx).flatMap bb) Th SM),x2]
theorem XE{C:bA}(hC:offB [2] (.vars C)=Th){n:Nat}{x:aw}(hxb:nL x)(hx:RW x=n)(hn:n<1000)(h0:Hp)(hh:∃u v w,h0=[u,v,(0,w)])(K:KL):∀(q a:aw)(o e:List Q),a++q=x->RW e=RW a->RW o=RW q->fJ 50000 o->K (.exit 0) [] (mV C ah (e++List.zipWith (λa z=>dZ a (jm (z,1))) o q)) ->
  lp (EV DA (.ref 1 1 0 n n (n*2)) (aW (fB x)) (I n)) [2] h0 [I (RW a)] (mV C ah (e++o)) K
 | [],a,o,e,ha,h1,h2,ho,hK=>by
  simp[Zn]at ha;simp only[List.length_nil]at h2;have h2':o=[]:=Zo h2;subst ha h2' hx;have PJ:¬((RW a:Int)<(RW a:Int)):=aa;apply aL
  simp_all[EV]
 |z::q,a,[],e,ha,h1,h2,ho,hK=>by simp at h2
 | z::q,a,y::o,e,ha,h1,h2,ho,hK=>by
  have DQ:RW a<n:=by rw[<-hx,<-ha];simp
  have⟨o1,o2⟩:=ho y ac;have Rg:RW ((e++y::o).map tx)=n:=by rw[<-hx,<-ha];simp at h2 ⊢;omega
  have hz:=hxb z ae;have⟨z1,z2⟩:=C8 hz;have sub:=alG o1 z1 o2 (z2.mono aa);have g1:(RW a:Int)<(n:Int):=aa
  have hxn:nth ([],[]) ((fB x).map tx) (RW a)=tx (z,1):=by
   have e1:(fB x).map tx=(fB a++(z,1)::fB q).map tx:=by rw[<-ha];simp[fB]
   have:=pV ([],[]) tx (fB a) (z,1) (fB q);rw[vW]at this;rw[e1,this]
  have hy:nth ([],[]) ((e++y::o).map tx) (RW a)=tx y:=by rw[<-h1];exact pV ..
  have i1:=λh:Hp=>kX bb dV ((fB x).map tx) h (k:=.i64) (i:=(RW a:Int)) aa (by grind[vW])
  have i2:=λh:Hp=>kV bb dV ([],[]) ((fB x).map tx) h (j:=RW a) (by grind[vW])
  simp[hxn,Int.toNat_natCast]at i1 i2;have hg:∀x2,(mV C x2 (e++y::o))[1]?=Wf (1,.data 2 (((e++y::o).map tx).flatMap bb) Th SM):=λx2=>rfl
  have e1:=λx2=>HA (hg x2) Rg (c:=RW a) DQ .i64
  have e2:=λx2=>L0 (hg x2) Rg (c:=RW a) DQ
  have e3:=λx2=>Fb (hg x2) Rg (c:=RW a) DQ (tx (dZ y (jm (z,1))))
  have es:((e++y::o).map tx).set (RW a) (tx (dZ y (jm (z,1))))=((e++[dZ y (jm (z,1))])++o).map tx:=by
   have:=Kn (e.map tx) (tx y) (tx (dZ y (jm (z,1)))) (o.map tx);rw[List.length_map,h1]at this;simpa using this
  simp only[hy,es]at e2 e3;have ih:=XE hC hxb hx hn h0 hh K q (a++[z]) o (e++[dZ y (jm (z,1))]) ae ae ae (λw hw=>ho w ae) xE;have e4:((RW (a++[z]):Nat):Int)=(RW a:Int)+1:=ac;rw[e4]at ih;have z2:aW (fB x)=de bb ((fB x).map tx):=rfl;simp[qT]at sub
  have e3':∀x2,st (mV C x2 (e++y::o)) 2 (.ptr 1 1 (RW a*2) (n*2)) (.agg [S (itoa (dZ y (jm (z,1))).fst),S (aA (dZ y (jm (z,1))).snd)])=Wf (mV C x2 (e++[dZ y (jm (z,1))]++o)):=e3;have hs2:(mV C ah (e++y::o))[2]?=Wf ah:=rfl;have hs3:∀b b',(mV C b (e++y::o)).set 2 b'=mV C b' (e++y::o):=λb b'=>rfl
  have hx2:∀b,iR (mV C (1,b) (e++y::o)) 2 1=b:=λb=>rfl
  have i2':∀h:Hp,aG h 2 (.dptr (((fB x).map tx).flatMap bb) (RW a*2))=Wf (.agg [S (itoa z),S (aA 1)]):=i2;have e2':∀x2,aG (mV C x2 (e++y::o)) 2 (.ptr 1 1 (RW a*2) (n*2))=Wf (.agg [S (itoa y.1),S (aA y.2)]):=e2;apply aL;simp only[EV];simp[z2,i1,i2',g1,hs2,hs3,hx2,e1,e2'];refine cd sub ?_ aN;simp(disch:=omega) [e1,e3']
  have es2:e++dZ y (jm (z,1))::o=e++[dZ y (jm (z,1))]++o:=ac
  have rs:∀b s,dl [2] 0 h0 (mV C (1,b) s)=mV C ah s:=λb s=>by
   obtain⟨⟨u1,u2⟩,⟨v1,v2⟩,w,rfl⟩:=hh;rfl
  rw[rs,es2];refine⟨?_,lo ih⟩;simp only[clean,mV,im,hC];rfl
theorem Pv(ht:pC p c w g)(hp10:RW p<10){x:aw}(hx:abk p w x)(hr:jN (lS p w g x)):Ds F.uV [cG p c w g,ai di x] (.tup [aW (lS p w g x),I 0]):=by
 apply acX;have hn:=ht.tp.lc.n12;have hxl:=hx.l;have hwl:=ht.tp.lw.ml;have hgl:=ht.gl;have a1:=ads (h:=[(1,.vars (bG p c w g)),ah,ah]) rfl ht hp10 hx;have tl:RW (fj w x)=RW w:=by simp[fj]
 have ok1:fJ 30 (fB (fj w x)):=λy hy=>by
  obtain⟨z,hz,rfl⟩:=Zw.1 hy;exact C8 (hx.t z hz)
 have hln:RW (pK p w g x)=RW p:=by
  unfold pK gC;rw[u5 (λs hs=>by grind[pC.gs])];simp
 have ok2:fJ 50000 (pK p w g x):=λy hy=>by
  have:=JO (EI (RW p)) (λs hs=>(ht.gs s hs).2) ok1 y hy;exact⟨this.1,this.2.mono aa⟩
 have a2:=Tn hx.b aa;have a3:=acZ ht.tp.pr aa (by grind[lS.eq_1]) hr;have l1:bf (aW (fB x))=Wf (I (RW p)):=by rw[Bc,vW,hxl]
 simp only[uV,cG];simp only[bG]at *;simp;refine ij (aoM (e:=0) (b:=.none) a1 rfl ?_);have hfl:RW (fN (pK p w g x))=RW p*2:=by rw[CW,hln]
 rw[hfl];simp;refine cd a2 ?_ aN;simp[l1];refine lo (XE (C:=[ai di p,bh c,bh w,ai bQ g]) rfl hx.b hxl aa _ ⟨_,_,_,rfl⟩ _ x [] (pK p w g x) [] rfl rfl (by rw[hln,hxl]) ok2 ?_);have ez:List.zipWith (λa z=>dZ a (jm (z,1))) (pK p w g x) x=lS p w g x:=rfl;rw[ez,List.nil_append]
 have sn:=QC (h:=mV [ai di p,bh c,bh w,ai bQ g] ah (lS p w g x)) (s:=1) (e:=1) (n:=RW p) (l:=(lS p w g x).map tx) rfl ae;have l4:ld1 (mV [ai di p,bh c,bh w,ai bQ g] ah (lS p w g x)) (.ptr 0 1 0 4)=Wf (ai di p):=rfl;have hx0:iR (mV [ai di p,bh c,bh w,ai bQ g] ah (lS p w g x)) 0 1=.vars [ai di p,bh c,bh w,ai bQ g]:=rfl
 simp[hx0];have e5:∀h:Hp,bW h (ai di p)=Wf (ai di p,h):=λh=>rfl
 refine rj (by simp only[bY,e5,sn];rfl) a3 ?_;simp;exact⟨_,rfl⟩
def mZ(p:aw)(c w:Mz)(g:List (List Q))(f:Tg->List Q)(t:Tg):Prop:=∃a b:List Q,Ds F.uV [cG p c w g,ai di t.iv] (.tup [aW a,I 0])∧Ds F.vy [ai di p,aW a] (.tup [aW b,I 0])∧Ds F.vu [ai di p,aW b,.agg [S t.num,S t.den]] (.tup [aW (f t),I 0])
def sQ:Acc:=⟨2,0,1,.none⟩
def IL(l:List (List Q)):V:=sQ.v (RW l) (l.map bQ)
def BQ(l:List (List Q)):Nat×Bk:=sQ.b (RW l) (l.map bQ)
theorem ZE{f:Tg->List Q}{l:List Tg}(hl:RW l<1000)(hd:∀t∈l,mZ p c w g f t)(h0:Hp)(hh:∃b u x,h0=[b,(0,u),x])(K:KL):∀(q a:List Tg),l=a++q->K (.exit 0) [IL (l.map f)] [(1,.vars (bG p c w g)),ah,BQ (l.map f)] ->
  lp (IK DA (.ptr 0 1 0 4) (ai di p) (dL l) (I (RW l))) [1] h0 [IL (a.map f),I (RW a)] [(1,.vars (bG p c w g)),ah,BQ (a.map f)] K
 | [],a,e,hK=>by
  simp[Zn]at e;subst e;apply aL;have PJ:¬((RW l:Int)<(RW l:Int)):=aa;simp only[IK];simp[PJ];exact hK
 | t::q,a,e,hK=>by
  apply aL;have PJ:((RW a:Int)<(RW l:Int)):=by rw[e];simp;omega
  have DQ:RW a<1000:=aa;have p1:=JE a q t;have p2:=JD a q t;rw[<-e]at p1 p2;have⟨ea,eb,c1,c2,c3⟩:=hd t (by rw[e];simp);have ih:=ZE hl hd h0 hh K q (a++[t]) (by rw[e];simp) hK;have e4:((RW (a++[t]):Nat):Int)=(RW a:Int)+1:=ac;rw[e4,Yt]at ih;have okr:∀r,okV (ai di r)=Th:=λr=>rfl
  have li:∀(s:List Q)(h:Hp),cL 1 [aR] [(0,aW s)] h=Wf ([bQ s],h):=λs h=>wh ..
  have l4:∀x y,aG [(1,.vars (bG p c w g)),x,y] 4 (.ptr 0 1 0 4)=Wf (cG p c w g):=λx y=>rfl
  simp only[IK];have⟨D0,hD⟩:=bD (BQ (a.map f));rw[<-hD];simp only[cG,bG]at c1 l4 ⊢;simp[PJ,p1,p2,okr];refine cd c1 ?_ (by simp[bY,bW,bh]);simp;apply cx;simp;refine cd c2 ?_ aN;simp;apply cx;simp;refine cd c3 ?_ aN;simp[li];have al:RW (a.map f)=RW a:=ac
  have hs:([(1,Bk.vars [ai di p,bh c,bh w,ai bQ g]),(1,Bk.vars [ai di t.iv,S t.num,S t.den]),D0]:Hp)[sQ.s]?=Wf (sQ.b (RW (a.map f)) ((a.map f).map bQ)):=by rw[hD];rfl
  refine mG sQ (Nd:=24) (k:=1) (cs:=[bQ (f t)]) aa hs (by simp[sQ]) rfl rfl (by intro t ht;cases ht) aa au ?_;have ev:IL (a.map f++[f t])=sQ.v (RW (a.map f)+1) ((a.map f).map bQ++[bQ (f t)]):=by simp[IL]
  have eb:BQ (a.map f++[f t])=sQ.b (RW (a.map f)+1) ((a.map f).map bQ++[bQ (f t)]):=by simp[BQ]
  simp only[Zv,Yp]at ih;rw[ev,eb]at ih;obtain⟨⟨b1,b2⟩,u,⟨x1,x2⟩,rfl⟩:=hh;have ea:aD BinOp.add (I (RW a:Int)) (V.d (D.int iK.i64 1))=Wf (I ((RW a:Int)+1)):=by simp(disch:=omega) []
  exact BV ea ⟨rfl,ih⟩
theorem NL(ht:pC p c w g){l:List Tg}(hl:RW l<1000)(hs:∀t∈l,qn t)(hc:nE p l=0)(hd:∀t∈l,mZ p c w g f t):Ds F.wV [cG p c w g,dL l] (.tup [ai bQ (l.map f),I 0]):=by
 apply anT;have hn:=ht.tp.lc.n12;have a1:=EW ht;have a2:=amH (p:=p) (l:=l) aa aa hs;rw[hc]at a2;have l1:bf (dL l)=Wf (I (RW l)):=rfl;simp only[wV,cG,bG];simp;refine cd (args:=[cG p c w g]) a1 ?_ (by simp[bY,bW,cG,bG,bh]);simp;refine cd a2 ?_ aN;simp[l1];refine lo (ZE hl hd _ ⟨_,_,_,rfl⟩ _ l [] rfl ?_)
 have⟨h',e1,_⟩:=oC sQ (L:=RW (l.map f)) (cells:=(l.map f).map bQ) (h:=[(1,.vars (bG p c w g)),ah,BQ (l.map f)]) rfl (by simp[sQ]);exact fR e1 rfl
theorem anV(ht:pC p c w g)(hs:qn t)(hc:nE p [t]=0)(hd:mZ p c w g f t):Ds F.yX [cG p c w g,.agg [ai di t.iv,S t.num,S t.den]] (.tup [aW (f t),I 0]):=by
 apply anP;have a1:=NL ht (f:=f) (l:=[t]) ac (by simpa using hs) hc (by simpa using hd);simp only[yX,cG,bG];have li:∀H:Hp,cL 1 [aR,D.str [],D.str []] [(0,V.agg [ai di t.iv,S t.num,S t.den])] H=Wf (fh t,H):=λH=>rfl
 have i1:∀H:Hp,bq H 1 (ai bQ (List.map f [t])) (I 0)=Wf (.dptr ((List.map f [t]).map bQ) 0):=λH=>rfl
 have i2:∀H:Hp,ld1 H (.dptr ((List.map f [t]).map bQ) 0)=Wf (aW (f t)):=λH=>rfl
 simp only[Zv,Yp]at a1 i1 i2;have e1:V.d (.sl 1 (fh t))=dL [t]:=by simp[dL,de]
 simp[li];rw[e1];refine cd a1 ?_ (by simp[bY,bW,cG,bG,bh,dL,de]);simp[i1,i2];exact⟨_,rfl⟩
theorem ag4(x:Tx):Ds F.yV [.agg [S x.1,S x.2]] (B (!decide (x.1=[48]))):=by apply anO;simp only[yV];simp;exact eG (by by_cases h:x.1=[48]<;>simp[h])
def Gj(s:List Q):Bool:=(s.map tx).any λx=>!decide (x.1=[48])
def qG:Nat->List (List Q)->aw
 |_,[]=>[]
 |i,s::l=>if Gj s=Th then qG (i+1) l else(i:Int)::qG (i+1) l
def vO:Acc:=⟨1,0,1,.none⟩
def Gk(l:aw):V:=vO.v (RW l) (l.map di)
def AD(l:aw):Nat×Bk:=vO.b (RW l) (l.map di)
theorem NK{l:List (List Q)}(hl:RW l<1000)(hn:∀s∈l,RW s<1000000)(b0:Nat×Bk)(h0:Hp)(K:KL):∀(q a:List (List Q))(z:aw),l=a++q->RW z<=RW a->K (.exit 0) [Gk (z++qG (RW a) q)] [b0,AD (z++qG (RW a) q)] ->
  lp (IG DA (ai bQ l) (I (RW l))) [] h0 [Gk z,I (RW a)] [b0,AD z] K
 | [],a,z,e,hz,hK=>by
  simp[Zn]at e;subst e;apply aL;have PJ:¬((RW l:Int)<(RW l:Int)):=aa;simp only[IG];simp[PJ];simpa[qG]using hK
 | s::q,a,z,e,hz,hK=>by
  apply aL;have PJ:((RW a:Int)<(RW l:Int)):=by rw[e];simp;omega
  have DQ:RW a<RW l:=aa;have i1:∀h:Hp,bq h 1 (ai bQ l) (I (RW a))=Wf (.dptr (l.map bQ) (RW a)):=λh=>by rw[e];exact uh bQ a s q _ _
  have i2:∀h:Hp,ld1 h (.dptr (l.map bQ) (RW a))=Wf (aW s):=λh=>by
   rw[nr bQ l _ DQ];simp only[e,Zf (Z8 _),Y7,Y8];rfl
  have cs:=ZR (g:=F.yV) (p:=λx=>!decide (x.1=[48])) (s.map tx) (by rw[List.length_map];exact hn s (by rw[e];simp)) (λx _=>ag4 x);have e4:((RW (a++[s]):Nat):Int)=(RW a:Int)+1:=ac;have z1:aW s=de bb (s.map tx):=rfl;have li:∀(i:Int)(h:Hp),cL 1 [.int .i64 0] [(0,I i)] h=Wf ([di i],h):=λi h=>rfl
  have⟨Z,hZ⟩:=bD (AD z);simp[qG]at hK;simp only[IG];rw[<-hZ];simp[PJ];apply cx;simp[i1,i2,z1];refine cd cs ?_ aN;cases hp:(s.map tx).any (λx=>!decide (x.1=[48]))with
  | true=>
   have ep:Gj s=Th:=hp;rw[ip ep]at hK;have ih:=NK hl hn b0 h0 K q (a++[s]) z (by rw[e];simp) dE (by rw[List.length_append];exact hK);rw[e4,<-hZ]at ih;simp;apply cx;simp(disch:=omega) [];rw[kh];exact lo ih
  | false=>
   have ep:¬Gj s=Th:=by unfold Gj;rw[hp];decide
   rw[iN ep]at hK;have ih:=NK hl hn b0 h0 K q (a++[s]) (z++[(RW a:Int)]) (by rw[e];simp) dE (by rw[List.length_append,List.append_assoc];exact hK);have ev:Gk (z++[(RW a:Int)])=vO.v (RW z+1) (z.map di++[di (RW a)]):=by simp[Gk]
   have eb:AD (z++[(RW a:Int)])=vO.b (RW z+1) (z.map di++[di (RW a)]):=by simp[AD]
   rw[e4,ev,eb]at ih;simp;apply cx;simp[li];refine mG vO (L:=RW z) (cells:=z.map di) (Nd:=8) (k:=1) (cs:=[di (RW a)]) aa (by rw[hZ];rfl) (by simp[vO]) rfl rfl (by intro t ht;cases ht) aa au ?_;have ea:aD BinOp.add (I (RW a:Int)) (V.d (D.int iK.i64 1))=Wf (I ((RW a:Int)+1)):=by simp(disch:=omega) []
   refine BV ea ⟨ac,?_⟩;rw[kh];exact ih
theorem anU(ht:pC p c w g){l:List Tg}(hl:RW l<1000)(hs:∀t∈l,qn t)(hc:nE p l=0)(hd:∀t∈l,mZ p c w g f t)(hf:∀t∈l,RW (f t)<1000000):Ds F.yW [cG p c w g,dL l] (.tup [ai di (qG 0 (l.map f)),I 0]):=by
 apply anN;have a1:=NL ht hl hs hc hd;have l1:bf (ai bQ (l.map f))=Wf (I (RW (l.map f))):=rfl;simp only[yW,cG,bG];simp;refine cd (args:=[cG p c w g,dL l]) a1 ?_ (by simp[bY,bW,cG,bG,bh,dL,de]);simp[l1];have lm:RW (l.map f)=RW l:=ac;rw[<-lm]
 refine lo (NK (l:=l.map f) aa (λs hs=>by obtain⟨t,h1,rfl⟩:=Zw.1 hs;exact hf t h1) _ _ _ (l.map f) [] [] rfl (Z8 _) ?_);have⟨h',e1,_⟩:=oC vO (L:=RW (qG 0 (l.map f))) (cells:=(qG 0 (l.map f)).map di) (h:=[(1,.vars (bG p c w g)),AD (qG 0 (l.map f))]) rfl (by simp[vO]);exact fR e1 rfl
structure Ms where
 t:Tg
 d:List Q
 i:Int
def dI(m:Ms):bF:=[row m.t.iv,.str m.t.num,.str m.t.den,bQ m.d,di m.i]
def kr(m:Ms):bA:=[ai di m.t.iv,S m.t.num,S m.t.den,aW m.d,I m.i]
def jG(p:aw)(c w:Mz)(g:List (List Q)):bF:=[row p,.sl (RW c) (c.map row),.sl (RW w) (w.map row),.sl (RW g) (g.map bQ)]
theorem adY{x y:Ms}{e:Int}(h:Ds F.iM [ai di p,aW y.d,aW x.d] (.tup [I z,I e])):Ds F.nI [.agg (kr x),.agg (kr y),.dptr (jG p c w g) 0] (I z):=by
 apply anM;have l1:∀H:Hp,ld1 H (.dptr (jG p c w g) 0)=Wf (ai di p):=λH=>rfl
 simp only[nI,kr];simp[l1];refine cd h ?_ aN;simp
theorem cdg{C:rF}{h h':Hp}{g:FuncId}{fs cs args ds:bA}{v:V}{k:bH}{u:PU k}(hs:bY h (fs++args++cs)=Wf (ds,h'))(hc:C g ds v)(hp:fk v=Th)(hk:k v h):rh (bp C h (.fn g fs cs) args) k u:=by
 show bp C h (.fn g fs cs) args k
 grind[bp]
def r4:Hp:=[ah,ah,ah,ah]
def r2:Hp:=[ah,ah]
def r1:Hp:=[ah]
def oe(l:List Ms):V:=de dI l
def tQ:Acc:=⟨1,0,5,.none⟩
def CN(z:List Ms):V:=tQ.v (RW z) (z.flatMap dI)
def Aw(z:List Ms):Nat×Bk:=tQ.b (RW z) (z.flatMap dI)
def gF(f:Tg->List Q):Nat->List Tg->List Ms
 |_,[]=>[]
 |i,t::q=>⟨t,f t,i⟩::gF f (i+1) q
theorem Qs{f:Tg->List Q}{l:List Tg}(hl:RW l<1000)(b0 x2:Nat×Bk)(h0:Hp)(K:KL):∀(q a:List Tg)(z:List Ms),l=a++q->RW z=RW a->K (.exit 0) [CN (z++gF f (RW a) q)] [b0,Aw (z++gF f (RW a) q),x2] ->
  lp (IF DA (dL l) (ai bQ (l.map f)) (I (RW l))) [] h0 [CN z,I (RW a)] [b0,Aw z,x2] K
 | [],a,z,e,hz,hK=>by
  simp only[Zn]at e;subst e;apply aL;have PJ:¬((RW l:Int)<(RW l:Int)):=aa;simp only[IF];simp[PJ]
  grind[gF]
 | t::q,a,z,e,hz,hK=>by
  apply aL;have PJ:((RW a:Int)<(RW l:Int)):=by rw[e];simp;omega
  have DQ:RW a<1000:=aa;have p1:=JE a q t;have p2:=JD a q t;rw[<-e]at p1 p2
  have i1:∀h:Hp,bq h 1 (ai bQ (l.map f)) (I (RW a))=Wf (.dptr ((l.map f).map bQ) (RW a)):=λh=>by
   simp_all
  have i2:∀h:Hp,ld1 h (.dptr ((l.map f).map bQ) (RW a))=Wf (aW (f t)):=λh=>by
   rw[nr bQ (l.map f) _ ae]
   have e6:(l.map f)[RW a]'(by grind)=f t:=by
    simp only[e,Yt,Zv];rw[Zf ac];simp
   rw[e6];rfl
  simp only[gF]at hK;have ih:=Qs hl b0 x2 h0 K q (a++[t]) (z++[⟨t,f t,RW a⟩]) ae ae (by rw[List.length_append,List.append_assoc];exact hK);have e4:((RW (a++[t]):Nat):Int)=(RW a:Int)+1:=ac;have ev:CN (z++[⟨t,f t,RW a⟩])=tQ.v (RW z+1) (z.flatMap dI++dI ⟨t,f t,RW a⟩):=by simp[CN]
  have eb:Aw (z++[⟨t,f t,RW a⟩])=tQ.b (RW z+1) (z.flatMap dI++dI ⟨t,f t,RW a⟩):=by simp[Aw]
  rw[e4,ev,eb]at ih;have bl:∀(t:Tg)(d:List Q)(i:Int),fG [(0,3),(3,1),(4,1)] [aR,.str [],.str [],aR,.int .i64 0] [(0,.agg [ai di t.iv,S t.num,S t.den]),(1,aW d),(2,I i)]=Wf (.agg (kr ⟨t,d,i⟩)):=λt d i=>rfl
  have li:∀(m:Ms)(H:Hp),cL 1 [aR,.str [],.str [],aR,.int .i64 0] [(0,.agg (kr m))] H=Wf (dI m,H):=λm H=>rfl
  have⟨Z,hZ⟩:=bD (Aw z);have⟨M,hM⟩:=bD (l.map f);simp only[IF];rw[<-hZ];rw[<-hM]at i1 i2 ih ⊢;simp[PJ,i1,i2,p1,p2,bl,li];refine mG tQ (L:=RW z) (cells:=z.flatMap dI) (Nd:=88) (k:=1) (cs:=dI ⟨t,f t,RW a⟩) aa (by rw[hZ];rfl) (jy dI (λ_=>rfl) z) rfl rfl ae aa au ?_
  have ea:aD BinOp.add (I (RW a:Int)) (V.d (D.int iK.i64 1))=Wf (I ((RW a:Int)+1)):=by simp(disch:=omega) []
  refine BV ea ⟨ac,?_⟩;rw[kh];exact ih
def GW:Ms:=⟨fM,[],0⟩
theorem LE(m:Ms):RW (dI m)=5:=rfl
theorem Di(a q:List Ms)(t:Ms)(h:Hp):bq h 5 (oe (a++t::q)) (I (RW a))=Wf (.dptr ((a++t::q).flatMap dI) (RW a*5)):=kX dI LE _ h (k:=.i64) (i:=(RW a:Int)) aa ae
theorem aiz(a q:List Ms)(t:Ms)(h:Hp):aG h 5 (.dptr ((a++t::q).flatMap dI) (RW a*5))=Wf (.agg (kr t)):=by have:=kV dI LE GW (a++t::q) h (j:=RW a) ac;rw[show nth GW (a++t::q) (RW a)=t by simp]at this;exact this
def uq:Acc:=⟨2,0,1,.none⟩
def wF(l:aw):V:=uq.v (RW l) (l.map di)
def qR(l:aw):Nat×Bk:=uq.b (RW l) (l.map di)
def mB(d:List Q):List Ms->aw
 |[]=>[]
 |m::l=>if m.d=d then m.i::mB d l else mB d l
theorem VS(hb:offB [1] b0.2=Th)(z:aw)(i:Int)(x:Bk):clean [1] [wF z,I i] [b0,(1,x),qR z]=Th:=by
 have v1:gY [1] (wF z)=Th:=by unfold wF Acc.v;split<;>rfl
 have v2:offB [1] (qR z).2=Th:=by unfold qR Acc.b;split<;>rfl
 simp only[clean,fA,v1,C9,hb,v2,Bool.or_true,X9];rfl
theorem ML{l:List Ms}{m0:Ms}{l':List Ms}(e0:l=m0::l')(hl:RW l<1000)(hs:∀m∈l,RW m.d<1000000)(b0:Nat×Bk)(h0:Hp)(hh:∃u v w,h0=[u,(0,v),w])(hb:offB [1] b0.2=Th)(K:KL):∀(q a:List Ms)(z:aw),l=a++q->RW z<=RW a->K (.exit 0) [wF (z++mB m0.d q)] [b0,ah,qR (z++mB m0.d q)] ->
  lp (IH DA (oe l) (oe l) (I (RW l))) [1] h0 [wF z,I (RW a)] [b0,ah,qR z] K
 | [],a,z,e,hz,hK=>by
  simp only[Zn]at e;subst e;apply aL;have PJ:¬((RW l:Int)<(RW l:Int)):=aa;simp only[IH];simp[PJ]
  grind[mB]
 | m::q,a,z,e,hz,hK=>by
  apply aL;have PJ:((RW a:Int)<(RW l:Int)):=by rw[e];simp;omega
  have DQ:RW a<1000:=aa;have p1:=Di a q m;have p2:=aiz a q m;rw[<-e]at p1 p2;have p3:∀h:Hp,bq h 5 (oe l) (I 0)=Wf (.dptr (l.flatMap dI) 0):=λh=>by rw[e0];exact Di [] l' m0 h
  have p4:∀h:Hp,ld1 h (.dptr (l.flatMap dI) 3)=Wf (aW m0.d):=λh=>by rw[e0];rfl
  have eq:=ami (s:=m.d) (t:=m0.d) (hs m ae);simp only[mB]at hK;have okm:∀m,(kr m).all okV=Th:=λm=>rfl
  have⟨Z,hZ⟩:=bD (qR z);simp only[IH];rw[<-hZ];simp[PJ];apply cx;simp only[kr]at p2;have okr:∀r,okV (ai di r)=Th:=λr=>rfl
  have okz:∀s,okV (aW s)=Th:=λr=>rfl
  simp[p1,p2,okr,okz,p3,p4];refine cd eq ?_ aN
  have rs:∀Y x,dl [1] 0 h0 [b0,(1,x),Y]=[b0,ah,Y]:=λY x=>by
   obtain⟨u,v,w,rfl⟩:=hh;rfl
  have ea:aD BinOp.add (I (RW a:Int)) (V.d (D.int iK.i64 1))=Wf (I ((RW a:Int)+1)):=by simp(disch:=omega) []
  have e4:((RW (a++[m]):Nat):Int)=(RW a:Int)+1:=ac;have li:∀(i:Int)(h:Hp),cL 1 [.int .i64 0] [(0,I i)] h=Wf ([di i],h):=λi h=>rfl
  by_cases em:m.d=m0.d
  .rw[ip em]at hK;have ih:=ML e0 hl hs b0 h0 hh hb K q (a++[m]) (z++[m.i]) ae ae ae;have ev:wF (z++[m.i])=uq.v (RW z+1) (z.map di++[di m.i]):=by simp[wF]
   have eb:qR (z++[m.i])=uq.b (RW z+1) (z.map di++[di m.i]):=by simp[qR]
   have cl:=VS hb (z++[m.i]) ((RW a:Int)+1) (.vars [ai di m.t.iv,S m.t.num,S m.t.den,aW m.d,I m.i]);rw[ev,eb]at cl;rw[e4,ev,eb]at ih;have em':decide (m.d=m0.d)=Th:=by simp[em]
   rw[em'];simp;apply cx;simp[li];refine mG uq (L:=RW z) (cells:=z.map di) (Nd:=8) (k:=1) (cs:=[di m.i]) aa (by rw[hZ];rfl) (by simp[uq]) rfl rfl ae aa au ?_
   grind[BV,uq]
  .rw[iN em]at hK;have ih:=ML e0 hl hs b0 h0 hh hb K q (a++[m]) z ae aa hK;have cl:=VS hb z ((RW a:Int)+1) (.vars [ai di m.t.iv,S m.t.num,S m.t.den,aW m.d,I m.i]);rw[<-hZ]at cl ih;rw[e4]at ih;have em':decide (m.d=m0.d)=SM:=by simp[em]
   rw[em'];simp;apply cx;simp(disch:=omega) []
   simp_all
section
variable{p:aw}{c w:Mz}{g:List (List Q)}
def hB(l:List Ms):Bk:=.data 5 (l.flatMap dI) SM SM
def hL(C:bA)(l:List Ms)(r:Hp):Hp:=(1,.vars C)::(1,hB l)::r
theorem yc:∀x:Ms,RW (dI x)=5:=λ_=>rfl
theorem VQ(a:List Ms)(x:Ms)(b:List Ms)(hn:n=RW (a++x::b)):ww (hB (a++x::b)) 5 1 1 0 n (n*5) (RW a:Int)=Wf (.ptr 1 1 (RW a*5) (n*5)):=by unfold hB;rw[akn _ _ _ _ _ _ _ _ _ _ _ (by rw[jy dI yc,hn]) aa ae];simp
theorem VP(a:List Ms)(x:Ms)(b:List Ms)(hn:n=RW (a++x::b)):ub (hB (a++x::b)) 5 (RW a*5) (n*5)=Wf (.agg (kr x)):=by
 have hm:nth x (a++x::b) (RW a)=x:=by
  clear hn
  induction a with
  |nil=>rfl
  |cons y a ih=>trivial
 unfold hB;rw[ajw,ip (by rw[jy dI yc,hn]),IN dI yc x _ ac,hm];rfl
theorem VO(C:bA)(a:List Ms)(x y:Ms)(b:List Ms)(r:Hp)(hn:n=RW (a++x::b)):tw (hB (a++x::b)) (hL C (a++x::b) r) 1 1 (RW a*5) (n*5) (kr y)=Wf (hL C (a++y::b) r):=by
 have fl:=jy dI yc (a++x::b);have fa:=jy dI yc a;have e0:dY (hL C (a++x::b) r) (kr y)=Wf (dI y,hL C (a++x::b) r):=rfl;have e1:aH (hL C (a++x::b) r) 1 1=.data 5 ((a++x::b).flatMap dI) SM SM:=rfl
 have e2:((a++x::b).flatMap dI).take (RW a*5)=a.flatMap dI:=by
  rw[Yx,<-fa,W5]
 have e3:((a++x::b).flatMap dI).drop (RW a*5+5)=b.flatMap dI:=by
  rw[Yx,Xy,<-List.append_assoc,Wv (by rw[List.length_append,fa];rfl)]
 have e4:(a++y::b).flatMap dI=a.flatMap dI++dI y++b.flatMap dI:=ac;simp only[hB,tw,jj,e1,e0];have e5:RW (dI y)=5:=rfl;rw[ip ⟨trivial,by rw[fl,hn],ae⟩,e5,e2,e3,<-e4];rfl
def inn(cf:Ms->Ms->Int)(x:Ms):List Ms->List Ms
 |[]=>[x]
 |y::q=>if cf x y<0 then y::inn cf x q else x::y::q
def pf(cf:Ms->Ms->Int):List Ms->List Ms->List Ms
 |a,[]=>a
 |a,x::q=>pf cf (inn cf x a) q
theorem MA(cf:Ms->Ms->Int)(x:Ms):∀a,RW (inn cf x a)=RW a+1
 |[]=>rfl
 | y::q=>by
  unfold inn;split
  .simp[MA cf x q]
  .rfl
variable{P:Ms->Prop}{cf:Ms->Ms->Int}(hc:∀x y,P x->P y->∃e:Int,Ds F.iM [ai di p,aW y.d,aW x.d] (.tup [I (cf x y),I e]))
include hc
theorem Vt{n:Nat}(hn:n<1000){b:Nat}(h0 r:Hp)(hr:RW h0=RW r+2)(K:KL):∀(pre:List Ms)(x:Ms)(post:List Ms),(∀y∈pre,P y)->P x->n=RW pre+1+RW post ->
  K (.exit 2) [] (hL (bG p c w g) ((inn cf x pre).reverse++post) r) ->
  lp (Fl DA b (.ref 1 1 0 n n (n*5)) (I 0) (.fn F.nI [] [.ptr 0 1 0 4])) [] h0 [I (RW pre)] (hL (bG p c w g) (pre.reverse++x::post) r) K
 | [],x,post,hp,hx,en,hK=>by
  apply aL;simp only[Fl];simp;exact hK
 | y::q,x,post,hp,hx,en,hK=>by
  have⟨e,ce⟩:=hc x y hx (hp y ac);have c1:=adY (p:=p) (c:=c) (w:=w) (g:=g) ce;have hg:∀l,iR (hL (bG p c w g) l r) 1 1=hB l:=λl=>rfl
  have sn:∀l x y,bY (hL (bG p c w g) l r) ([]++[.agg (kr x),.agg (kr y)]++[.ptr 0 1 0 4])=Wf ([.agg (kr x),.agg (kr y),.dptr (jG p c w g) 0],(1,.data 1 (jG p c w g) SM Th)::(1,hB l)::r):=λl x y=>rfl
  have ml:∀a,RW (kr a)=5:=λa=>rfl
  have el:(y::q).reverse++x::post=q.reverse++y::x::post:=ac;have el2:RW (q.reverse++[y])=RW q+1:=ac;have el3:∀z,q.reverse++z::x::post=(q.reverse++[z])++x::post:=λz=>by simp
  have nn:∀u v,n=RW (q.reverse++u::v::post):=λu v=>by grind
  have i0:∀u v,ww (hB (q.reverse++u::v::post)) 5 1 1 0 n (n*5) (RW q:Int)=Wf (.ptr 1 1 (RW q*5) (n*5)):=λu v=>by
   grind[VQ]
  have i1:∀u v,ww (hB (q.reverse++u::v::post)) 5 1 1 0 n (n*5) ((RW q:Int)+1)=Wf (.ptr 1 1 ((RW q+1)*5) (n*5)):=λu v=>by
   have:=VQ (q.reverse++[u]) v post ((nn u v).trans ac);grind
  have d0:∀u v,ub (hB (q.reverse++u::v::post)) 5 (RW q*5) (n*5)=Wf (.agg (kr u)):=λu v=>by
   grind[VP]
  have d1:∀u v,ub (hB (q.reverse++u::v::post)) 5 ((RW q+1)*5) (n*5)=Wf (.agg (kr v)):=λu v=>by
   have:=VP (q.reverse++[u]) v post ((nn u v).trans ac);grind
  have s0:∀u v z,tw (hB (q.reverse++u::v::post)) (hL (bG p c w g) (q.reverse++u::v::post) r) 1 1 (RW q*5) (n*5) (kr z)=Wf (hL (bG p c w g) (q.reverse++z::v::post) r):=λu v z=>by
   grind[VO]
  have s1:∀u v z,tw (hB (q.reverse++u::v::post)) (hL (bG p c w g) (q.reverse++u::v::post) r) 1 1 ((RW q+1)*5) (n*5) (kr z)=Wf (hL (bG p c w g) (q.reverse++u::z::post) r):=λu v z=>by
   have:=VO (bG p c w g) (q.reverse++[u]) v z post r ((nn u v).trans ac);grind
  have lq:(RW (y::q):Int)=(RW q:Int)+1:=ac;have hgt:(0:Int)<(RW q:Int)+1:=aa;have em:(RW q:Int)+1-1=RW q:=aa;rw[el,lq];apply aL;simp only[Fl];simp(disch:=omega) [hgt,em,hg,i0,i1,d0,d1];refine cdg (sn ..) c1 rfl ?_;by_cases hz:cf x y<0
  .simp(disch:=omega) [hz,em,hg,i0,i1,d0,d1,ml,s0,s1];rw[F7 _ _ _ (by simp[hL,hr])];have ih:=Vt hn (b:=b) h0 r hr K q x (y::post) (λz hz=>hp z ae) hx ae (by grind[inn]);exact ih
  .simp[hz]
   grind[inn]
theorem Vu{n:Nat}(hn:n<1000){b:Nat}(h0 r:Hp)(hr:RW h0=RW r+2)(K:KL):∀(post pre:List Ms),(∀y∈pre,P y)->(∀y∈post,P y)->n=RW pre+RW post ->
  K (.exit 0) [] (hL (bG p c w g) (pf cf pre post).reverse r) ->
  lp (zZ DA b (.ref 1 1 0 n n (n*5)) (I 0) (I n) (.fn F.nI [] [.ptr 0 1 0 4])) [] h0 [I (RW pre)] (hL (bG p c w g) (pre.reverse++post) r) K
 | [],pre,hp,hq,en,hK=>by
  have e1:n=RW pre:=by simpa using en
  have PJ:¬((RW pre:Int)<(RW pre:Int)):=aa;apply aL;simp only[zZ];rw[e1];simp[PJ];trivial
 | x::q,pre,hp,hq,en,hK=>by
  have PJ:(RW pre:Int)<(n:Int):=by rw[en];simp;omega
  apply aL;simp only[zZ];simp[PJ];refine Vt hc hn _ r aN _ pre x q hp (hq x ac) ae ?_;simp(disch:=omega) [];rw[F7 _ _ _ (by simp[hL,hr])]
  have hi:∀(x:Ms)(a:List Ms),(∀y∈a,P y)->P x->∀y∈inn cf x a,P y:=by
   intro x a
   induction a with
   |nil=>grind[inn]
   | cons z a ih=>
    intro ha hx y hy;unfold inn at hy;split at hy
    .rcases Zx.mp hy with e|hy
     .rw[e];exact ha z ac
     grind
    .rcases Zx.mp hy with e|hy
     .rwa [e]
     grind
  have ih:=Vu hn (b:=b) h0 r hr K q (inn cf x pre) (hi x pre hp (hq x ac)) (λy hy=>hq y ae) (by grind[MA]) cU
  simp_all[MA]
def zU(cf:Ms->Ms->Int)(l:List Ms):List Ms:=(pf cf [] l).reverse
theorem akw{l:List Ms}(hl:RW l<1000)(hp:∀y∈l,P y):
  CI Y F.rQ [.ref 1 1 0 (RW l) (RW l) (RW l*5),I 0,I (RW l),.fn F.nI [] [.ptr 0 1 0 4]] (hL (bG p c w g) l r4) (.tup []) (hL (bG p c w g) (zU cf l) r4):=by
 apply QI;simp only[rQ];simp;cases l with
 | nil=>
  apply aL;simp only[zZ];simp;exact⟨rfl,rfl,.inl ⟨rfl,rfl⟩⟩
 | cons x q=>
  refine Vu hc hl _ r4 rfl _ q [x] (λy hy=>hp y ae) (λy hy=>hp y ae) ae ?_;simp;exact⟨rfl,rfl,.inl ⟨rfl,rfl⟩⟩
theorem adQ{l:List Ms}(hl:RW l<20)(hp:∀y∈l,P y):
  CI Y F.tD [.ref 1 1 0 (RW l) (RW l) (RW l*5),I (RW l),.fn F.nI [] [.ptr 0 1 0 4]] (hL (bG p c w g) l r2) (.tup []) (hL (bG p c w g) (zU cf l) r2):=by
 apply QH;have si:=akw hc (g:=g) (c:=c) (w:=w) (l:=l) aa hp;have ea:hL (bG p c w g) l r2++[(0,Bk.none),(0,Bk.none)]=hL (bG p c w g) l r4:=rfl;have h20:¬((20:Int)<=(RW l:Int)):=aa;have h21:¬((20:Int)<(RW l:Int)):=aa;simp only[tD];simp[ea];apply aL
 simp only[J5];simp[h20];refine ij (gJ si ?_ ac);apply aL;simp only[J4];simp[h21];exact⟨rfl,rfl,.inl ⟨rfl,rfl⟩⟩
theorem ad6{l:List Ms}(hl:RW l<20)(hp:∀y∈l,P y):
  CI Y F.rR [.ref 1 1 0 (RW l) (RW l) (RW l*5),.fn F.nI [] [.ptr 0 1 0 4]] (hL (bG p c w g) l r1) (.tup []) (hL (bG p c w g) (zU cf l) r1):=by
 apply QJ;have si:=adQ hc (g:=g) (c:=c) (w:=w) hl hp;have ea:hL (bG p c w g) l r1++[(0,Bk.none)]=hL (bG p c w g) l r2:=rfl;have l1:bf (.ref 1 1 0 (RW l) (RW l) (RW l*5))=Wf (I (RW l)):=rfl;simp only[rR];simp[ea,l1];refine ij (gJ si ?_ ac)
 exact⟨rfl,rfl,.inl ⟨rfl,rfl⟩⟩
end
def ja(cq:List Q->List Q->Int)(f:Tg->List Q)(l:List Tg):List Ms:=zU (λx y=>cq y.d x.d) (gF f 0 l)
theorem tY(f:Tg->List Q):∀(l:List Tg)(i:Nat),RW (gF f i l)=RW l
 |[],_=>rfl
 |t::l,i=>by simp[gF,tY f l (i+1)]
theorem Dk(f:Tg->List Q):∀(l:List Tg)(i:Nat)(m:Ms),m∈gF f i l->m.t∈l∧m.d=f m.t
 |[],_,m,hm=>by trivial
 | t::l,i,m,hm=>by
  rcases Zx.mp hm with e|h
  .grind
  .have:=Dk f l (i+1) m h
   grind
theorem Vw(cf:Ms->Ms->Int)(x:Ms):∀a,(inn cf x a).Perm (x::a)
 |[]=>.refl _
 | y::q=>by
  unfold inn;split
  .exact((Vw cf x q).cons y).trans (.swap x y q)
  rfl
theorem Bm(cf:Ms->Ms->Int):∀q a,(pf cf a q).Perm (a++q)
 |[],a=>by simp[pf]
 | x::q,a=>by
  unfold pf;exact(Bm cf q (inn cf x a)).trans (((Vw cf x a).append_right q).trans (List.perm_middle.symm))
theorem Ff(cf:Ms->Ms->Int)(l:List Ms):(zU cf l).Perm l:=(List.reverse_perm _).trans (Bm cf l [])
theorem ad7:CI Y F.rR [jO,.fn F.nI [] [.ptr 0 1 0 4]] ((1,.vars (bG p c w g))::ah::r1) (.tup []) ((1,.vars (bG p c w g))::ah::r1):=by
 have i1:CI Y F.rQ [jO,I 0,I 0,.fn F.nI [] [.ptr 0 1 0 4]] ((1,.vars (bG p c w g))::ah::r4) (.tup []) ((1,.vars (bG p c w g))::ah::r4):=by
  apply QI;simp only[rQ];simp;apply aL;simp only[zZ];simp;exact⟨rfl,rfl,.inl ⟨rfl,rfl⟩⟩
 have i2:CI Y F.tD [jO,I 0,.fn F.nI [] [.ptr 0 1 0 4]] ((1,.vars (bG p c w g))::ah::r2) (.tup []) ((1,.vars (bG p c w g))::ah::r2):=by
  apply QH;have ea:(1,Bk.vars (bG p c w g))::(0,Bk.none)::(r2++[(0,Bk.none),(0,Bk.none)])=(1,.vars (bG p c w g))::ah::r4:=rfl;simp only[tD];simp[ea];apply aL;simp only[J5];simp;refine ij (gJ i1 ?_ ac);apply aL
  simp only[J4];simp;exact⟨rfl,rfl,.inl ⟨rfl,rfl⟩⟩
 apply QJ;have ea:(1,Bk.vars (bG p c w g))::(0,Bk.none)::(r1++[(0,Bk.none)])=(1,.vars (bG p c w g))::ah::r2:=rfl;have l1:bf jO=Wf (I 0):=rfl;simp only[rR];simp[ea,l1];refine ij (gJ i2 ?_ ac);exact⟨rfl,rfl,.inl ⟨rfl,rfl⟩⟩
theorem JV(ht:pC p c w g){f:Tg->List Q}{cq:List Q->List Q->Int}{l:List Tg}(hl:RW l<20)(hs:∀t∈l,qn t)(hc:nE p l=0)(hd:∀t∈l,mZ p c w g f t)
  (hq:∀t∈l,∀u∈l,∃e:Int,Ds F.iM [ai di p,aW (f t),aW (f u)] (.tup [I (cq (f t) (f u)),I e])) :
  Ds F.sO [cG p c w g,dL l] (.tup [oe (ja cq f l),I 0]):=by
 apply anL;have a1:=NL ht aa hs hc hd
 have st:=ad6 (P:=λm=>m.t∈l∧m.d=f m.t) (cf:=λx y=>cq y.d x.d) (p:=p) (c:=c) (w:=w) (g:=g) (λx y hx hy=>by
  grind) (l:=gF f 0 l) (by grind[tY]) (Dk f l 0)
 rw[tY]at st
 have l1:bf (ai bQ (l.map f))=Wf (I (RW l)):=by
  have:=ajk bQ (l.map f)
  rwa [List.length_map]at this
 simp only[sO,cG,bG];simp;refine cd (args:=[cG p c w g,dL l]) a1 ?_ aN;simp[l1]
 have ml:=Qs (f:=f) (l:=l) aa (1,.vars (bG p c w g)) ah [(1,.vars (bG p c w g)),ah,ah]
  (aV [(Exit.exit 0,λl8 h=>eO DA.i h (V.fn F.rR [] []) [ge l8 0,V.fn F.nI [] [V.ptr 0 1 0 4]] 2 λv9 h=>
   out (V.tup [oe (ja cq f l),I 0]) (V.tup [ge l8 0,V.d (D.int iK.i64 0)]) h)]) l [] [] rfl rfl ?_
 .trivial
 by_cases h0:l=[]
 .subst h0;simp;refine ij (gJ ad7 ?_ ac);exact⟨_,rfl⟩
 have h0:0<RW l:=Xn.2 h0;have hz:0<RW (gF f 0 l):=by rw[tY];exact h0
 have eV:CN ([]++gF f (RW ([]:List Tg)) l)=.ref 1 1 0 (RW l) (RW l) (RW l*5):=by
  have e1:RW ((gF f 0 l).flatMap dI)=RW l*5:=by rw[jy dI yc,tY]
  show tQ.v (RW (gF f 0 l)) ((gF f 0 l).flatMap dI)=_
  rw[<-e1,<-tY f l 0];cases hm:RW (gF f 0 l) with
  |zero=>omega
  |succ k=>rfl
 have eB:Aw ([]++gF f (RW ([]:List Tg)) l)=(1,hB (gF f 0 l)):=by
  show tQ.b (RW (gF f 0 l)) ((gF f 0 l).flatMap dI)=_
  cases hm:RW (gF f 0 l) with
  |zero=>omega
  |succ k=>rfl
 rw[eV,eB];simp;refine ij (gJ st ?_ ac);have ln:RW (ja cq f l)=RW l:=(Ff _ _).length_eq.trans (tY f l 0);have fl:=jy dI yc (ja cq f l)
 obtain ⟨h',e5,_⟩:=oC tQ (L:=RW l) (cells:=(ja cq f l).flatMap dI) (h:=hL (bG p c w g) (ja cq f l) r1) (by
  have⟨k,hk⟩:∃k,RW l=k+1:=⟨RW l-1,aa⟩;rw[hk];rfl) (by rw[fl,ln];rfl)
 have e6:tQ.v (RW l) ((ja cq f l).flatMap dI)=.ref 1 1 0 (RW l) (RW l) (RW l*5):=by
  have⟨k,hk⟩:∃k,RW l=k+1:=⟨RW l-1,aa⟩;have:RW ((ja cq f l).flatMap dI)=RW l*5:=by rw[fl,ln]
  rw[<-this,hk];rfl
 rw[e6]at e5;refine⟨h',?_⟩
 show bW (hL (bG p c w g) (ja cq f l) r1) (V.tup [V.ref 1 1 0 (RW l) (RW l) (RW l*5),V.d (D.int iK.i64 0)])=_
 simp only[bW,bY];simp[bW]at e5;rw[e5,<-ln];rfl
theorem adU{cq:List Q->List Q->Int}{l:List Tg}{m:Ms}(hm:m∈ja cq f l):m.t∈l∧m.d=f m.t:=Dk f l 0 m ((Ff _ _).mem_iff.mp hm)
theorem Fe(cq:List Q->List Q->Int)(f:Tg->List Q)(l:List Tg):RW (ja cq f l)=RW l:=(Ff _ _).length_eq.trans (tY f l 0)
theorem ak6(ht:pC p c w g){f:Tg->List Q}{cq:List Q->List Q->Int}{l:List Tg}(hl:RW l<20)(h0:0<RW l)(hs:∀t∈l,qn t)(hc:nE p l=0)(hd:∀t∈l,mZ p c w g f t)(hf:∀t∈l,RW (f t)<1000000)
  (hq:∀t∈l,∀u∈l,∃e:Int,Ds F.iM [ai di p,aW (f t),aW (f u)] (.tup [I (cq (f t) (f u)),I e])) {m0:Ms} {l':List Ms} (hm:ja cq f l=m0::l') :
  Ds F.yY [cG p c w g,dL l] (.tup [aW m0.d,ai di (mB m0.d (ja cq f l)),I 0]):=by
 apply anQ;have a1:=JV ht hl hs hc hd hq;have ln:=Fe cq f l
 have ms:∀m∈ja cq f l,RW m.d<1000000:=λm h=>by
  have:=adU h
  grind
 have⟨S,hS⟩:=bD (ja cq f l);rw[<-hS]at a1 hm ln ms ⊢;have l1:bf (oe S)=Wf (I (RW l)):=by rw[<-ln];rfl
 have lz:¬(l=[]):=by rintro rfl;cases h0
 have p3:∀h:Hp,bq h 5 (oe S) (I 0)=Wf (.dptr (S.flatMap dI) 0):=λh=>by rw[hm];exact Di [] l' m0 h
 have p4:∀h:Hp,ld1 h (.dptr (S.flatMap dI) 3)=Wf (aW m0.d):=λh=>by rw[hm];rfl
 simp only[yY,cG,bG];simp;refine cd (args:=[cG p c w g,dL l]) a1 ?_ aN;simp[l1,lz]
 have ml:=ML hm aa ms (1,.vars (bG p c w g)) [(1,.vars (bG p c w g)),ah,ah] ⟨_,_,_,rfl⟩ rfl
  (aV [(Exit.exit 0,λl10 h=>bnd (bq h 5 (oe S) (.d (.int .i64 0))) λv11=>bnd (ii 3 v11) λv12=>bnd (ld1 h v12) λv13=>out (.tup [aW m0.d,ai di (mB m0.d S),I 0]) (.tup [v13,(ge l10 0),(.d (.int .i64 0))]) h)]) S [] [] rfl (Z8 _) ?_
 .rw[ln]at ml;trivial
 simp[p3,p4];have⟨h',e5,_⟩:=oC uq (L:=RW (mB m0.d S)) (cells:=(mB m0.d S).map di) (h:=[(1,.vars (bG p c w g)),ah,qR (mB m0.d S)]) rfl (by simp[uq]);have e6:=zQ m0.d [(1,.vars (bG p c w g)),ah,qR (mB m0.d S)];have e7:bW [(1,.vars (bG p c w g)),ah,qR (mB m0.d S)] (wF (mB m0.d S))=Wf (.d (.sl (RW (mB m0.d S)) ((mB m0.d S).map di)),h'):=e5
 refine⟨h',?_⟩;simp only[bW,bY,e6,e7];rfl
theorem amj{x y:aw}(hx:RW x<1000000000)(hy:RW y<1000000000):Ds F.xt [ai di x,ai di y] (B (decide (x=y))):=by
 apply aeI;have e0:@QK=@CE:=rfl;by_cases h:RW x=RW y
 .simp[xt,h];rw[<-h,e0];refine lo (M9 _ x y [] [] rfl h cU (λg=>?_) (λg=>?_))
  .simp
   simp_all
  .simp
   simp_all
 .simp[xt,h];exact eG (by simp;intro e;exact h (by rw[e]))
def sV(cq:List Q->List Q->Int):List Ms->List Ms->Int
 |s::S,t::T=>if cq s.d t.d=0 then sV cq S T else cq s.d t.d
 |_,_=>0
variable{p:aw}{c w:Mz}{g:List (List Q)}{p':aw}{c' w':Mz}{g':List (List Q)}
theorem TK(a q:List Ms)(t:Ms)(h:Hp):ld1 h (.dptr ((a++t::q).flatMap dI) (RW a*5+3))=Wf (aW t.d):=by
 have:=ajx dI LE GW (a++t::q) h (j:=RW a) (o:=3) (x:=bQ t.d) ac au (by
  rw[show nth GW (a++t::q) (RW a)=t by simp];rfl)
 exact this
theorem aae{cq:List Q->List Q->Int}{S T:List Ms}(hl:RW S<1000)(hc:∀s∈S,∀t∈T,Ds F.iM [ai di p,aW s.d,aW t.d] (.tup [I (cq s.d t.d),I 0]))(h:Hp)(K:KL):∀(q q' a a':List Ms),S=a++q->T=a'++q'->RW a=RW a'->RW q=RW q' ->
  (sV cq q q'=0->K (.exit 2) [] h)->(sV cq q q'≠0->K .ret [I (sV cq q q'),I 0] h) ->
  lp (II DA (ai di p) (oe S) (oe T) (I (RW S))) [] h [I (RW a)] h K
 | [],q',a,a',e,e',hz,hz',h0,h1=>by
  have:q'=[]:=Zo hz'.symm;subst this;simp[Zn]at e;subst e;apply aL;have PJ:¬((RW S:Int)<(RW S:Int)):=aa;simp only[II];simp[PJ];exact h0 rfl
 |s::q,[],a,a',e,e',hz,hz',h0,h1=>by cases hz'
 | s::q,t::q',a,a',e,e',hz,hz',h0,h1=>by
  apply aL;have PJ:((RW a:Int)<(RW S:Int)):=by rw[e];simp;omega
  have DQ:RW a<1000:=by rw[e]at hl;simp at hl;omega
  have p1:=Di a q s;have p2:=TK a q s;have p3:=Di a' q' t;have p4:=TK a' q' t;rw[<-e]at p1 p2;rw[<-e',<-hz]at p3 p4;have hcs:=hc s ae t ae;have e4:((RW (a++[s]):Nat):Int)=(RW a:Int)+1:=ac;simp only[II];simp[PJ,p1,p2,p3,p4];refine cd hcs ?_ aN;by_cases hk:cq s.d t.d=0
  .simp only[sV,hk,iT]at h0 h1;have ih:=aae hl hc h K q q' (a++[s]) (a'++[t]) ae ae ae ae h0 h1;rw[e4]at ih;simp(disch:=try exact cj)[hk];trivial
  .simp only[sV,hk,iF]at h0 h1;simp[hk]
   grind
theorem aol(h1:Ds F.pI [cG p c w g] (I 0))(h2:Ds F.pI [cG p' c' w' g'] (I 0))(hb0:offB [2] b0.2=Th)(hb1:offB [2] b1.2=Th)(K:KL)(hK:K (.exit 0) [] [b0,b1,ah]):
  lp (Ef DA (.d (.sl 2 (jG p c w g++jG p' c' w' g'))) (I 2)) [2] [b0,b1,ah] [I 0] [b0,b1,ah] K:=by
 have i1:∀h:Hp,bq h 4 (.d (.sl 2 (jG p c w g++jG p' c' w' g'))) (.d (.int .i64 0))=Wf (.dptr (jG p c w g++jG p' c' w' g') 0):=λh=>rfl
 have i2:∀h:Hp,aG h 4 (.dptr (jG p c w g++jG p' c' w' g') 0)=Wf (.agg [ai di p,bh c,bh w,ai bQ g]):=λh=>rfl
 have i3:∀h:Hp,bq h 4 (.d (.sl 2 (jG p c w g++jG p' c' w' g'))) (.d (.int .i64 1))=Wf (.dptr (jG p c w g++jG p' c' w' g') 4):=λh=>rfl
 have i4:∀h:Hp,aG h 4 (.dptr (jG p c w g++jG p' c' w' g') 4)=Wf (.agg [ai di p',bh c',bh w',ai bQ g']):=λh=>rfl
 have ok1:∀m:aw,okV (ai di m)=Th:=λ_=>rfl
 have ok2:∀m:Mz,okV (bh m)=Th:=λ_=>rfl
 have lJ:∀g:List (List Q),okV (ai bQ g)=Th:=λ_=>rfl
 have cl:∀(i:Int) x,clean [2] [I i] [b0,b1,(1,x)]=Th:=λi x=>by
  simp only[clean,fA,C9,hb0,hb1,Bool.or_true,X9];rfl
 have rs:∀x,dl [2] 0 [b0,b1,ah] [b0,b1,(1,x)]=[b0,b1,ah]:=λx=>by
  rfl
 apply aL;simp only[Ef];simp[i1,i2,ok1,ok2,lJ];refine cd (args:=[cG p c w g]) h1 ?_ aN;simp;refine⟨cl 1 _,?_⟩;rw[rs];refine lo (aL ?_);simp only[Ef];simp[i3,i4,ok1,ok2,lJ];refine cd (args:=[cG p' c' w' g']) h2 ?_ aN;simp;refine⟨cl 2 _,?_⟩;rw[rs];refine lo (aL ?_);simp only[Ef];simp;exact hK
theorem ZD{v:V}(h1:Ds F.pI [cG p c w g] (I 0))(h2:Ds F.pI [cG p' c' w' g'] (I 0))(hn:RW p<1000)(hn':RW p'<1000){l:List Tg}(h3:p≠p'->v=.tup [I 0,I 14])
  (h4:p=p'->∃(cq:List Q->List Q->Int)(S T:List Ms),RW S<1000∧RW S=RW T∧Ds F.sO [cG p c w g,dL l] (.tup [oe S,I 0])∧Ds F.sO [cG p' c' w' g',dL l] (.tup [oe T,I 0]) ∧
   (∀s∈S,∀t∈T,Ds F.iM [ai di p,aW s.d,aW t.d] (.tup [I (cq s.d t.d),I 0]))∧v=.tup [I (sV cq S T),I 0]):Ds F.yZ [cG p c w g,cG p' c' w' g',dL l] v:=by
 apply anR;have hli:∀h,cL 2 [aR,aR,aR,aR] [(0,.agg [ai di p,bh c,bh w,ai bQ g]),(1,.agg [ai di p',bh c',bh w',ai bQ g'])] h=Wf (jG p c w g++jG p' c' w' g',h):=λh=>by rfl
 have l1:bf (.d (.sl 2 (jG p c w g++jG p' c' w' g')))=Wf (I 2):=rfl;have eqp:=amj (x:=p) (y:=p') aa aa;simp only[yZ,cG,bG];simp[hli,l1];refine lo (aol h1 h2 rfl rfl _ ?_);simp;refine cd eqp ?_ aN;by_cases hp:p=p'
 .obtain⟨cq,S,T,hS,hT,s1,s2,hc,rfl⟩:=h4 hp;clear h4 h3;subst hp;have l2:bf (oe S)=Wf (I (RW S)):=rfl;simp;refine cd (args:=[cG p c w g,dL l]) s1 ?_ aN;simp;refine cd (args:=[cG p c' w' g',dL l]) s2 ?_ aN;simp[l2];refine lo (aae hS hc _ _ S T [] [] rfl rfl rfl hT (λz=>?_) λz=>?_)
  .rw[z];simp;exact⟨_,rfl⟩
  .simp;exact⟨_,rfl⟩
 .rw[h3 hp];clear h4 h3;simp[hp];exact⟨_,rfl⟩
variable{x0 x1 x3:Nat×Bk}{e:Nat}
variable{p:aw}{c w:Mz}
variable{l:Int->Nat}{N:Nat}
variable{a:Ad}
variable{a:Ad}{h:Hp}
section
variable{p:aw}{b:Nat}
variable{B:Nat}{owns:List cM}{steps:List (List cM)}
end
variable{a:Ad}
section
variable{p:aw}{b B:Nat}{owns:List cM}{steps:List (List cM)}
end
variable{g:FuncId}{cs:bA}{cf:List Q->List Q->Int}
variable{p:aw}{c w:Mz}
def vT(s:List Q):Bool:=s.all λx=>decide (0<x.2)&&(Nat.gcd x.1.natAbs x.2 == 1)&&decide (ay x.1.natAbs<=30)&&decide (ay x.2<=30)
theorem vS(h:vT s=Th):jN s:=λx hx=>by
 have:=Zz.1 h x hx;simp[Z7,dT,beq_iff_eq]at this;exact⟨⟨this.1.1.1,this.1.1.2⟩,this.1.2,this.2⟩
def G1(l:aw):Bool:=l.all λz=>decide (-1000000000<=z)&&decide (z<=1000000000)
theorem LJ{l:aw}(h:G1 l=Th):nL l:=λz hz=>by
 have:=Zz.1 h z hz
 grind
def t7(n:Nat)(m:Mz):Bool:=decide (0<n)&&decide (n<=12)&&decide (RW m<=12)&&m.all λr=>decide (RW r=n)&&G1 r
theorem TZ(h:t7 n m=Th):jD n m:=by simp[t7,Z7,dT,Zz]at h;exact⟨h.1.1.1,h.1.1.2,h.1.2,λr hr=>(h.2 r hr).1,λr hr=>LJ (h.2 r hr).2⟩
def p5:aw:=[2,3,5]
def pX:Mz:=[[4,-4,1]]
def od:Mz:=[[1,0,-4],[0,1,4]]
theorem LD:w7 p5 pX od where
 pr:=by rfl
 lc:=TZ aN
 lw:=TZ aN
 ch:=by rfl
 k1:=⟨20,100,au,aN,aN⟩
theorem Dr(a b c:Int)(h:Hp):cL 3 [.int .i64 0] [(0,.d (.int .i64 a)),(1,.d (.int .i64 b)),(2,.d (.int .i64 c))] h=Wf ([.int .i64 a,.int .i64 b,.int .i64 c],h):=by rfl
theorem CZ{n d:Int}(hd:d≠0)(h1 : -9223372036854775808<n)(h2:n<9223372036854775808)(h3 : -9223372036854775808<d)(h4:d<9223372036854775808):Ds F.jK [I n,I d] (.agg (qT (js n d))):=by apply afS;have fo:=MR hd h1 h2 h3 h4;simp[qT]at fo;simp only[jK];simp;refine cd fo ?_;simp;exact nh rfl rfl
def o6:List (List Q):=[[(1,1),(0,1),(0,1)],[(1,1),(0,1),(1,4)]]
theorem GV:pC p5 pX od o6 where
 tp:=LD
 gl:=au
 gs:=λs hs=>by
  have:=Zz.1 (show(o6.all λs=>decide (RW s=RW p5)&&vT s)=Th by decide+kernel) s hs
  grind[vS]
def kZ(s:List Q):Int:=if tq p5 s=[]then 0 else mb (tq p5 s)
def Dy(s:List Q):Bool:=decide (RW (tq p5 s)<=600∧∀t∈tq p5 s,2<=t.1∧t.1<1000000∧t.2.natAbs<9223372036854775808)&&decide (tq p5 s≠[]->mb (tq p5 s)≠0)
theorem U5(h:Dy s=Th):Ak p5 s (kZ s):=by simp only[Dy,Z7,dT]at h;exact λd=>afA h.1 h.2
def Cg(t:Tg):Q:=(jW t.num t.den).getD (0,1)
def wJ(t:Tg):List Q:=lS p5 od o6 t.iv
def Ew(t:Tg):List Q:=Ev p5 (wJ t) (kZ (wJ t))
def gr(t:Tg):List Q:=gC (RW p5) [Ew t] [Cg t]
def t8(s:List Q):Bool:=decide (RW s=RW p5)
def N6(t:Tg):Bool:=decide (RW t.iv=RW p5)&&nV t.iv&&G1 t.iv&&decide (mN t.iv=0)&&G1 (fj od t.iv)
def N5(t:Tg):Bool:=vT (wJ t)&&t8 (wJ t)&&Dy (wJ t)&&vT (Ew t)&&t8 (Ew t)&&vT (gr t)&&t8 (gr t)&&decide (-1<=kZ (wJ t)∧kZ (wJ t)<=1)
def N4(t:Tg):Bool:=decide (jW t.num t.den=Wf (Cg t))&&vT [Cg t]
theorem amF(c1:N6 t=Th)(c2:N5 t=Th)(c3:N4 t=Th):mZ p5 pX od o6 gr t:=by
 simp[N6,Z7,dT]at c1;simp[N5,t8,Z7,dT]at c2;simp[N4,Z7,dT]at c3;have⟨⟨⟨⟨a1,a2⟩,a3⟩,a4⟩,a5⟩:=c1;have⟨⟨⟨⟨⟨⟨⟨b1,b2⟩,b3⟩,b4⟩,b5⟩,b6⟩,b7⟩,b8⟩:=c2;have pc:d8 p5=0:=LD.pr
 refine⟨wJ t,Ew t,Pv GV au ⟨a1,a2,LJ a3,a4,LJ a5⟩ (vS b1),abi pc au b2 (vS b1) (U5 b3) b8.1 b8.2,?_⟩;have sc:=Q6 (p:=p5) (s:=Ew t) (k:=Cg t) pc au b5 (vS b4) (vS c3.2 (Cg t) ac) (vS b6);have⟨e1,e2⟩:=JC c3.1;simp[qT]at sc;rw[<-e1,<-e2]at sc;exact sc
def lN:Tg:=⟨[-1,1,0],[49],[49]⟩
def Bj:Tg:=⟨[1,1,-1],[50],[49]⟩
def Dz:Tg:=⟨[-2,0,1],[49],[49]⟩
def hO:List Tg:=[lN,Bj,Dz]
theorem Mq:∀t∈hO,mZ p5 pX od o6 gr t:=λt ht=>by
 have:=Zz.1 (show(hO.all λt=>N6 t&&N5 t&&N4 t)=Th by decide+kernel) t ht
 grind[amF]
theorem Mp:∀t∈hO,qn t:=λt ht=>by
 simp[hO,Zx,Y3,or_false]at ht;rcases ht with rfl|rfl|rfl<;>exact⟨au,au,au⟩
theorem akj{s:Tg}(hs:s∈hO)(ht:t∈hO)(h:kZ (kx p5 (gr s) (gr t))=z)(hq:Dy (kx p5 (gr s) (gr t))=Th):Ds F.iM [ai di p5,aW (gr s),aW (gr t)] (.tup [I z,I 0]):=by
 have key:∀t∈hO,t8 (gr t)=Th∧vT (gr t)=Th:=λt ht=>by
  have:=Zz.1 (show(hO.all λt=>t8 (gr t)&&vT (gr t))=Th by decide+kernel) t ht
  grind
 have⟨a1,a2⟩:=key s hs;have⟨b1,b2⟩:=key t ht;simp[t8,dT]at a1 b1;have c:=U5 hq;rw[h]at c;exact abq LD.pr au a1 b1 (vS a2) (vS b2) c
theorem Vh:∀t∈hO,RW (gr t)<1000000:=λt ht=>by
 have:=Zz.1 (show(hO.all λt=>t8 (gr t))=Th by rfl) t ht;simp[t8,dT]at this;rw[this];decide
theorem kOf:Ds F.yX [cG p5 pX od o6,.agg [ai di lN.iv,S lN.num,S lN.den]] (.tup [aW [(-1,1),(1,1),(-1,4)],I 0]):=by have:=anV GV (f:=gr) (t:=lN) (Mp _ (by simp[hO])) aN (Mq _ (by simp[hO]));trivial
theorem aki:Ds F.yY [cG p5 pX od o6,dL hO] (.tup [aW [(-2,1),(2,1),(-1,2)],ai di [1],I 0]):=by
 have cq:∀t∈hO,∀u∈hO,∃e:Int,Ds F.iM [ai di p5,aW (gr t),aW (gr u)] (.tup [I (kZ (kx p5 (gr t) (gr u))),I e]):=λt ht u hu=>
  ⟨0,akj ht hu rfl (Zz.1 (Zz.1 (show(hO.all λt=>hO.all λu=>Dy (kx p5 (gr t) (gr u)))=Th by rfl) t ht) u hu)⟩
 have es:ja (λa b=>kZ (kx p5 a b)) gr hO=[⟨Bj,gr Bj,1⟩,⟨lN,gr lN,0⟩,⟨Dz,gr Dz,2⟩]:=aJ;have:=ak6 GV (l:=hO) (cq:=λa b=>kZ (kx p5 a b)) au au Mp aN Mq Vh cq es;have e1:mB (gr Bj) [⟨Bj,gr Bj,1⟩,⟨lN,gr lN,0⟩,⟨Dz,gr Dz,2⟩]=[1]:=du;trivial
theorem akh:Ds F.yW [cG p5 pX od o6,dL hO] (.tup [ai di [2],I 0]):=by
 have:=anU GV (f:=gr) (l:=hO) au Mp aN Mq Vh
 rwa [show qG 0 (hO.map gr)=[2] by decide+kernel]at this
theorem UG(a b c:Q)(h:Hp):cL 3 [D.str [],D.str []] [(0,.agg (qT a)),(1,.agg (qT b)),(2,.agg (qT c))] h=Wf (fN [a,b,c],h):=rfl
theorem aiy:Ds F.vC [] (cG p5 pX od o6):=by
 apply afV;have q0:=CZ (n:=0) (d:=1) au au au au au;have q1:=CZ (n:=1) (d:=1) au au au au au;have q2:=CZ (n:=1) (d:=4) au au au au au;rw[show js 0 1=(0,1) by rfl]at q0;rw[show js 1 1=(1,1) by rfl]at q1
 rw[show js 1 4=(1,4) by rfl]at q2;have l3:=λh=>UG (1,1) (0,1) (0,1) h
 have l4:=λh=>UG (1,1) (0,1) (1,4) h
 simp[qT]at q0 q1 q2 l3 l4;simp only[vC];simp;refine cd q0 ?_;simp;refine cd q1 ?_;simp[Dr,wh,G6,l3,l4];refine cds q2 ?_;simp[Dr,wh,G6,l3,l4];exact⟨_,rfl⟩
theorem CY{n d:Int}{a b:bB}(hd:d≠0)(h1 : -9223372036854775808<n)(h2:n<9223372036854775808)(h3 : -9223372036854775808<d)(h4:d<9223372036854775808)(ha:itoa (js n d).1=a)(hb:aA (js n d).2=b):Ds F.jK [I n,I d] (.agg [S a,S b]):=by grind[CZ,qT]
theorem Mi:Ds F.vE [] (B Th):=by
 apply afX;have q1:Ds F.jK [I 1,I 1] (.agg [S [49],S [49]]):=CY au au au au au du du;have q2:Ds F.jK [I 2,I 1] (.agg [S [50],S [49]]):=CY au au au au au du du
 have q3:Ds F.jK [I (-1),I 1] (.agg [S [45,49],S [49]]):=CY au au au au au du du;have q4:Ds F.jK [I (-1),I 4] (.agg [S [45,49],S [52]]):=CY au au au au au du du
 have q5:Ds F.jK [I (-2),I 1] (.agg [S [45,50],S [49]]):=CY au au au au au du du;have mt:=aiy;have c1:=kOf;have c2:=aki;have c3:=akh;have tv:cG p5 pX od o6=.agg [ai di p5,bh pX,bh od,ai bQ o6]:=rfl;have i1:itoa (-1)=[45,49]:=du;have i2:itoa 1=[49]:=du
 have i3:itoa (-2)=[45,50]:=du;have n1:aA 1=[49]:=du;have n4:aA 4=[52]:=du;have x0:∀h:Hp,bq h 2 (aW [(-1,1),(1,1),(-1,4)]) (I 0)=Wf (.dptr (fN [(-1,1),(1,1),(-1,4)]) 0):=λh=>rfl
 have x1:∀h:Hp,bq h 2 (aW [(-1,1),(1,1),(-1,4)]) (I 1)=Wf (.dptr (fN [(-1,1),(1,1),(-1,4)]) 2):=λh=>rfl
 have x2:∀h:Hp,bq h 2 (aW [(-1,1),(1,1),(-1,4)]) (I 2)=Wf (.dptr (fN [(-1,1),(1,1),(-1,4)]) 4):=λh=>rfl
 have y0:∀h:Hp,aG h 2 (.dptr (fN [(-1,1),(1,1),(-1,4)]) 0)=Wf (.agg [S [45,49],S [49]]):=λh=>by rw[<-i1,<-n1];rfl
 have y1:∀h:Hp,aG h 2 (.dptr (fN [(-1,1),(1,1),(-1,4)]) 2)=Wf (.agg [S [49],S [49]]):=λh=>by
  have:aG h 2 (.dptr (fN [(-1,1),(1,1),(-1,4)]) 2)=Wf (.agg [S (itoa 1),S (aA 1)]):=rfl
  grind
 have y2:∀h:Hp,aG h 2 (.dptr (fN [(-1,1),(1,1),(-1,4)]) 4)=Wf (.agg [S [45,49],S [52]]):=λh=>by rw[<-i1,<-n4];rfl
 have x3:∀h:Hp,bq h 2 (aW [(-2,1),(2,1),(-1,2)]) (I 0)=Wf (.dptr (fN [(-2,1),(2,1),(-1,2)]) 0):=λh=>rfl
 have y3:∀h:Hp,aG h 2 (.dptr (fN [(-2,1),(2,1),(-1,2)]) 0)=Wf (.agg [S [45,50],S [49]]):=λh=>by rw[<-i3,<-n1];rfl
 have z1:bf (aW [(-1,1),(1,1),(-1,4)])=Wf (I 3):=rfl;have z2:bf (aW [(-2,1),(2,1),(-1,2)])=Wf (I 3):=rfl;have be:∀a b:bB,pz [.str [],.str []] .eql (.agg [S a,S b]) (.agg [S a,S b])=Wf (B Th):=λa b=>by simp[apd]
 generalize hA:aW [(-1,1),(1,1),(-1,4)]=A at *;generalize hB:aW [(-2,1),(2,1),(-1,2)]=B' at *;generalize fN [(-1,1),(1,1),(-1,4)]=PA at *;generalize fN [(-2,1),(2,1),(-1,2)]=PB at *
 have lt:∀h:Hp,cL 3 [aR,.str [],.str []] [(0,.agg [.d (.sl 3 [.int .i64 (-1),.int .i64 1,.int .i64 0]),S [49],S [49]]),(1,.agg [.d (.sl 3 [.int .i64 1,.int .i64 1,.int .i64 (-1)]),S [50],S [49]]),(2,.agg [.d (.sl 3 [.int .i64 (-2),.int .i64 0,.int .i64 1]),S [49],S [49]])] h=Wf (hO.flatMap fh,h):=λh=>rfl
 have t0:∀h:Hp,bq h 3 (.d (.sl 3 (hO.flatMap fh))) (I 0)=Wf (.dptr (hO.flatMap fh) 0):=λh=>rfl
 have t1:∀h:Hp,aG h 3 (.dptr (hO.flatMap fh) 0)=Wf (.agg [ai di lN.iv,S lN.num,S lN.den]):=λh=>rfl
 have tg:V.d (.sl 3 (hO.flatMap fh))=dL hO:=rfl;simp only[vE];simp[Dr];refine cd q1 ?_;simp[Dr];refine cd q2 ?_;simp[Dr];refine cd q1 ?_;simp[lt];refine cd mt ?_;simp[t0,t1];have st:∀h:Hp,bW h (cG p5 pX od o6)=Wf (cG p5 pX od o6,h):=λh=>rfl
 have sT:∀h:Hp,bW h (.d (.sl 3 (hO.flatMap fh)))=Wf (dL hO,h):=λh=>rfl
 have sK:∀h:Hp,bW h (.agg [ai di lN.iv,S lN.num,S lN.den])=Wf (.agg [ai di lN.iv,S lN.num,S lN.den],h):=λh=>rfl
 have w0:∀h:Hp,bq h 1 (ai di [1]) (I 0)=Wf (.dptr ([1].map di) 0):=λh=>rfl
 have w1:∀h:Hp,ld1 h (.dptr (([1]:aw).map di) 0)=Wf (I 1):=λh=>rfl
 have w2:∀h:Hp,bq h 1 (ai di [2]) (I 0)=Wf (.dptr ([2].map di) 0):=λh=>rfl
 have w3:∀h:Hp,ld1 h (.dptr (([2]:aw).map di) 0)=Wf (I 2):=λh=>rfl
 have w4:bf (ai di [1])=Wf (I 1):=rfl;have w5:bf (ai di [2])=Wf (I 1):=rfl;refine rj aN c1 ?_;simp;refine cd mt ?_;simp;refine rj aN c2 ?_;simp;refine cd mt ?_;simp;refine rj aN c3 ?_;simp[z1,x0,y0];refine cd q3 ?_;simp[be,x1,y1];refine cd q1 ?_;simp[be,x2,y2];refine cd q4 ?_;simp[be,z2,x3,y3];refine cd q5 ?_;simp[be,w0,w1,w2,w3,w4,w5]
variable{p:aw}{c w w':Mz}{e:Int}
abbrev Ve:=Nat->Int
variable{v u:Ve}
def gv:aw->List Ve->Ve
 |k::ks,h::hs=>λi=>k*h i+gv ks hs i
 |_,_=>λ_=>0
def bV(m:List Ve)(v:Ve):Prop:=∃ks,v=gv ks m
def B3:aw->aw->aw
 |k::ks,k'::ks'=>(k+k')::B3 ks ks'
 |[],l=>l
 |l,[]=>l
theorem y9(m:List Ve):gv [] m=λ_=>0:=by cases m<;>rfl
theorem aad:∀(ks ks':aw)(m:List Ve)(i:Nat),gv (B3 ks ks') m i=gv ks m i+gv ks' m i
 |_,_,[],i=>by cases ‹aw› <;>simp[gv]
 |[],l,h::m,i=>by simp[B3,y9]
 |k::ks,[],h::m,i=>by simp[B3,y9]
 | k::ks,k'::ks',h::m,i=>by
  simp only[B3,gv,aad ks ks' m i]
  grind
theorem aac(c:Int):∀(ks:aw)(m:List Ve)(i:Nat),gv (ks.map (c * ·)) m i=c*gv ks m i
 |[],m,i=>by simp[y9]
 |k::ks,[],i=>by simp[gv]
 | k::ks,h::m,i=>by
  simp only[Zv,gv,aac c ks m i]
  grind
theorem bV.zero(m:List Ve):bV m λ_=>0:=⟨[],(y9 m).symm⟩
theorem bV.add{m:List Ve}(hu:bV m u)(hv:bV m v):bV m λi=>u i+v i:=by obtain⟨a,rfl⟩:=hu;obtain⟨b,rfl⟩:=hv;exact⟨B3 a b,funext λi=>(aad a b m i).symm⟩
theorem bV.mul{m:List Ve}(c:Int)(hu:bV m u):bV m λi=>c*u i:=by obtain⟨a,rfl⟩:=hu;exact⟨a.map (c * ·),funext λi=>(aac c a m i).symm⟩
theorem bV.sub{m:List Ve}(hu:bV m u)(hv:bV m v):bV m λi=>u i-v i:=by
 have:=hu.add (hv.mul (-1))
 grind
theorem bV.mem:∀{m:List Ve}{h:Ve},h∈m->bV m h
 | g::m,h,hm=>by
  rcases Zx.1 hm with rfl|hm
  .exact⟨[1],funext λi=>by simp[gv,y9]⟩
  .have⟨ks,e⟩:=bV.mem hm;exact⟨0::ks,funext λi=>by grind[gv]⟩
theorem bV.le:∀{m m':List Ve},(∀h∈m,bV m' h)->∀{v},bV m v->bV m' v:=λ{m m'} hm {v} hv=>by
 obtain⟨ks,rfl⟩:=hv
 induction m generalizing ks with
 |nil=>cases ks<;>exact bV.zero m'
 | cons h m ih=>
  cases ks with
  |nil=>simp[y9,zero]
  |cons k ks=>exact((hm h ac).mul k).add (ih (λg hg=>hm g ae) ks)
def fV:Nat->List (Nat×Ve)->Prop
 |_,[]=>True
 |o,(l,h)::m=>(o<=l∧0<h l∧∀j,j<l->h j=0)∧(∀x∈m,0<=h x.1∧h x.1<x.2 x.1)∧fV (l+1) m
def vs(m:List (Nat×Ve)):List Ve:=m.map (·.2)
theorem akP(h:o'<=o):∀{m:List (Nat×Ve)},fV o m->fV o' m
 |[],_=>trivial
 |(l,g)::m,⟨⟨a,b⟩,c⟩=>⟨⟨aa,b⟩,c⟩
theorem ul:∀{m:List (Nat×Ve)}{o:Nat},fV o m->∀{v},bV (vs m) v->∀j,j<o->v j=0
 |[],o,_,v,⟨ks,e⟩,j,hj=>by subst e;cases ks<;>rfl
 | (l,h)::m,o,⟨⟨a,b,c⟩,d,r⟩,v,⟨ks,e⟩,j,hj=>by
  subst e;cases ks with
  |nil=>rfl
  | cons k ks=>
   have h2:=ul r ⟨ks,rfl⟩ j aa
   grind[vs,gv]
theorem wD:∀{m:List (Nat×Ve)}{o:Nat},fV o m->∀{v},bV (vs m) v->(∀j,v j=0)∨∃x∈m,(∀j,j<x.1->v j=0)∧v x.1≠0∧x.2 x.1∣v x.1
 |[],o,_,v,⟨ks,e⟩=>.inl λj=>by subst e;cases ks<;>rfl
 | (l,h)::m,o,⟨⟨a,b,c⟩,d,r⟩,v,⟨ks,e⟩=>by
  subst e;cases ks with
  |nil=>exact .inl λj=>rfl
  | cons k ks=>
   have h2:=λj hj=>ul r (v:=gv ks (vs m)) ⟨ks,rfl⟩ j hj
   by_cases hk:k=0
   .subst hk;have e:gv (0::ks) (vs ((l,h)::m))=gv ks (vs m):=funext λi=>by simp[vs,gv]
    rw[e];rcases wD r (v:=gv ks (vs m)) ⟨ks,rfl⟩with z|⟨x,hx,p⟩
    .grind
    grind
   .refine .inr ⟨(l,h),ac,λj hj=>?_,?_,?_⟩
    .show k*h j+gv ks (vs m) j=0
     rw[c j hj,h2 j aa];simp
    .show k*h l+gv ks (vs m) l≠0
     rw[h2 l aa,Int.add_zero];exact Wt hk aa
    grind[gv,vs,Int.dvd_mul_left]
theorem HO{l:Nat}{h:Ve}{m:List (Nat×Ve)}{o:Nat}(H:fV o ((l,h)::m)){v:Ve}(hv:bV (vs ((l,h)::m)) v)(h0:v l=0):bV (vs m) v:=by
 have⟨⟨a,b,c⟩,d,r⟩:=H;obtain⟨ks,rfl⟩:=hv;cases ks with
 |nil=>exact bV.zero _
 | cons k ks=>
  have h2:=ul r (v:=gv ks (vs m)) ⟨ks,rfl⟩ l aa;have h3:k*h l+gv ks (vs m) l=0:=h0;rw[h2,Int.add_zero]at h3
  have hk:k=0:=by
   rcases Int.mul_eq_zero.1 h3 with h|h
   .exact h
   .omega
  subst hk;exact⟨ks,funext λi=>by simp[vs,gv]⟩
theorem yJ:∀{m:List (Nat×Ve)}{o:Nat},fV o m->∀x∈m,o<=x.1
 | (l,h)::m,o,⟨⟨a,b⟩,d,r⟩,x,hx=>by
  rcases Zx.1 hx with rfl|hx
  .exact a
  .have:=yJ r x hx;omega
theorem VH{l l':Nat}{h h':Ve}{m m':List (Nat×Ve)}{o o':Nat}(H:fV o ((l,h)::m))(H':fV o' ((l',h')::m'))(e:bV (vs ((l',h')::m')) h):l'<=l∧(l=l'->h' l∣h l):=by
 have⟨⟨a,b,c⟩,d,r⟩:=H;rcases wD H' e with z|⟨x,hx,p1,p2,p3⟩
 .exact absurd (z l) aa
 ·have e1:x.1=l:=by
   rcases Nat.lt_trichotomy x.1 l with g|g|g
   .grind
   .exact g
   .grind
  have ge:=yJ H' x hx;have⟨⟨a',b',c'⟩,d',r'⟩:=H'
  have hg:l'<=x.1:=by
   rcases Zx.1 hx with rfl|hx
   .omega
   .have:=yJ r' x hx;omega
  refine⟨aa,λel=>?_⟩;rcases Zx.1 hx with rfl|hx
  .grind
  grind[yJ]
theorem VF:∀{m m':List (Nat×Ve)}{o:Nat},fV o m->fV o m'->(∀v,bV (vs m) v↔bV (vs m') v)->m=m'
 |[],[],_,_,_,_=>rfl
 | [],(l,h)::m',o,H,H',e=>by
  have h1:=(e h).2 (bV.mem (by simp[vs]));rcases wD H h1 with z|⟨x,hx,_⟩
  .have:=H'.1.2.1;grind
  trivial
 | (l,h)::m,[],o,H,H',e=>by
  have h1:=(e h).1 (bV.mem (by simp[vs]));rcases wD H' h1 with z|⟨x,hx,_⟩
  .have:=H.1.2.1;grind
  trivial
 | (l,h)::m,(l',h')::m',o,H,H',e=>by
  have a1:=VH H H' ((e h).1 (bV.mem (by simp[vs])));have a2:=VH H' H ((e h').2 (bV.mem (by simp[vs])));obtain rfl:l=l':=aa;have d1:=a1.2 rfl;have d2:=a2.2 rfl;have p1:=H.1.2.1;have p2:=H'.1.2.1;have el:h l=h' l:=Int.le_antisymm (Int.le_of_dvd p2 d2) (Int.le_of_dvd p1 d1)
  have te:∀v,bV (vs m) v↔bV (vs m') v:=λv=>by
   constructor
   .intro hv;have z:v l=0:=ul H.2.2 hv l aa
    grind[HO,bV.le,bV.mem,vs]
   .intro hv;have z:v l=0:=ul H'.2.2 hv l aa
    grind[HO,bV.le,bV.mem,vs]
  obtain rfl:=VF H.2.2 H'.2.2 te;have hu:bV (vs ((l,h)::m)) λi=>h i-h' i:=bV.sub (bV.mem (by simp[vs])) ((e h').2 (bV.mem (by simp[vs])))
  have hu2:=HO H hu aa
  have eh:h=h':=by
   rcases wD H.2.2 hu2 with z|⟨x,hx,q1,q2,q3⟩
   .grind
   .have b1:=H.2.1 x hx;have b2:=H'.2.1 x hx;exact absurd (Int.eq_zero_of_dvd_of_natAbs_lt_natAbs q3 aa) q2
  rw[eh]
abbrev eZ(m:Mz)(i j:Nat):Int:=nth 0 (nth [] m i) j
def ve(r:aw):Ve:=λi=>nth 0 r i
def Ln(n:Nat)(m:Mz):Prop:=∀i,i<RW m->RW (nth [] m i)=n
def iZ(c o:Nat)(m:Mz)(i:Nat):Mz:=gA [] (λr=>r) (λ_ r=>r) c o m i
theorem AR(d:α)(l:List α)(i j:Nat)(x:α)(h:i<RW l):nth d (l.set i x) j=if j=i then x else nth d l j:=by
 simp only[nth,Z6,List.getElem?_set];by_cases e:i=j
 .grind
 .rw[iN e,iN (λg=>e g.symm)]
theorem ah3(k:Int):∀(a b:aw)(j:Nat),RW a=RW b->nth 0 (jk k a b) j=nth 0 a j-k*nth 0 b j
 |[],[],j,_=>by simp[jk,nth]
 |x::a,y::b,0,_=>by rfl
 | x::a,y::b,j+1,h=>by
  grind[jk,nth]
 |[],_::_,_,h=>by simp at h
 |_::_,[],_,h=>by simp at h
theorem XQ{c:Nat}(hl:Ln n m)(hi:i<RW m)(ho:o<RW m)(k j:Nat):eZ (iZ c o m i) k j=if k=i then eZ m i j-(eZ m i c).fdiv (eZ m o c)*eZ m o j else eZ m k j:=by
 unfold eZ iZ gA;rw[AR _ _ _ _ _ hi];split
 .rename_i h;rw[ah3 _ _ _ _ ((hl i hi).trans (hl o ho).symm)];rfl
 .rfl
theorem ai5(hl:Ln n m){x:aw}(hx:RW x=n):Ln n (m.set i x):=λj hj=>by
 rw[Yu]at hj;by_cases h:i<RW m
 .rw[AR _ _ _ _ _ h];split
  .exact hx
  .exact hl j hj
 .rw[List.set_eq_of_length_le aa];exact hl j hj
theorem qy(c o:Nat)(m:Mz)(i:Nat):RW (iZ c o m i)=RW m:=rN c o m i
theorem LL{c:Nat}(hl:Ln n m)(hi:i<RW m)(ho:o<RW m):Ln n (iZ c o m i):=
 ai5 hl (by simp[jk,hl i hi,hl o ho])
def eQ(m:Mz)(v:Ve):Prop:=bV (m.map ve) v
theorem j9(hi:i<RW m):eQ m (ve (nth [] m i)):=bV.mem (Zw.2 ⟨_,by rw[nth,Z6,List.getElem?_eq_getElem hi];simp,rfl⟩)
theorem zV(h:∀i,i<RW m->eQ m' (ve (nth [] m i)))(hv:eQ m v):eQ m' v:=by
 refine bV.le (λg hg=>?_) hv;obtain⟨r,hr,rfl⟩:=Zw.1 hg;obtain⟨i,hi,rfl⟩:=Zj.1 hr;have:=h i hi
 rwa [nth,Z6,List.getElem?_eq_getElem hi]at this
def iD(m m':Mz):Prop:=∀v,eQ m v↔eQ m' v
theorem Pe{c:Nat}(hl:Ln n m)(hi:i<RW m)(ho:o<RW m):ve (nth [] (iZ c o m i) i)=λj=>ve (nth [] m i) j-(eZ m i c).fdiv (eZ m o c)*ve (nth [] m o) j:=funext λj=>by
 have:=XQ (c:=c) hl hi ho i j;rw[ip rfl]at this;exact this
theorem sj{c:Nat}(hi:i<RW m)(h:k≠i):nth [] (iZ c o m i) k=nth [] m k:=by grind[iZ,gA,AR]
theorem ad3{c:Nat}(hl:Ln n m)(hi:i<RW m)(ho:o<RW m)(MT:i≠o):iD m (iZ c o m i):=λv=>by
 have DE:i<RW (iZ c o m i):=by rw[qy];exact hi
 have ho':o<RW (iZ c o m i):=by rw[qy];exact ho
 have eo:nth [] (iZ c o m i) o=nth [] m o:=sj hi (λh=>MT h.symm);constructor
 .refine zV λk hk=>?_
  by_cases h:k=i
  .subst h;have a:=(j9 DE).add ((j9 ho').mul ((eZ m k c).fdiv (eZ m o c)))
   have e:(λj=>ve (nth [] (iZ c o m k) k) j+(eZ m k c).fdiv (eZ m o c)*ve (nth [] (iZ c o m k) o) j)=ve (nth [] m k):=funext λj=>by
    grind[Pe]
   rw[e]at a;exact a
  .rw[<-sj (c:=c) (o:=o) hi h]
   grind[j9,qy]
 .refine zV λk hk=>?_
  rw[qy]at hk;by_cases h:k=i
  .subst h;rw[Pe hl hi ho];exact(j9 hi).sub ((j9 ho).mul _)
  grind[sj,j9]
theorem iD.refl(m:Mz):iD m m:=λv=>Iff.rfl
theorem iD.trans{a b c:Mz}(h:iD a b)(h':iD b c):iD a c:=λv=>(h v).trans (h' v)
def lG(m:Mz)(i j:Nat):Mz:=iG [] m i j
theorem ti(hi:i<RW m)(hj:j<RW m)(k:Nat):nth [] (lG m i j) k=if k=j then nth [] m i else if k=i then nth [] m j else nth [] m k:=by
 unfold lG iG;rw[AR _ _ _ _ _ ae];split
 .rfl
 .rw[AR _ _ _ _ _ hi]
theorem uZ(m:Mz)(i j:Nat):RW (lG m i j)=RW m:=m7 m i j
theorem LM(hl:Ln n m)(hi:i<RW m)(hj:j<RW m):Ln n (lG m i j):=λk hk=>by
 rw[uZ]at hk;rw[ti hi hj];split
 .exact hl i hi
 .split
  .exact hl j hj
  .exact hl k hk
theorem ad4(hi:i<RW m)(hj:j<RW m):iD m (lG m i j):=λv=>by
 have DE:i<RW (lG m i j):=by rw[uZ];exact hi
 have hj':j<RW (lG m i j):=by rw[uZ];exact hj
 constructor
 .refine zV λk hk=>?_
  by_cases h1:k=i
  .subst h1;have:=j9 hj'
   grind[ti]
  .by_cases h2:k=j
   .subst h2;have:=j9 DE
    grind[ti]
   .have:=j9 (m:=lG m i j) (i:=k) (by grind[uZ])
    grind[ti]
 grind[zV,uZ,ti,j9]
def lK(c o:Nat)(m:Mz):Mz:=oY [] (λr=>r) (λ_ r=>r) c o m
theorem GK(a:aw)(j:Nat):nth 0 (a.map (- ·)) j = - nth 0 a j:=by grind[nth]
theorem vY{c:Nat}(ho:o<RW m)(k:Nat):nth [] (lK c o m) k=if k=o∧eZ m o c<0 then(nth [] m o).map (- ·)else nth [] m k:=by
 show nth [] (if eZ m o c<0 then m.set o ((nth [] m o).map (- ·))else m) k=_
 by_cases h:eZ m o c<0
 .rw[ip h,AR _ _ _ _ _ ho];by_cases hk:k=o
  .rw[ip hk,ip ⟨hk,h⟩]
  .rw[iN hk,iN (λg=>hk g.1)]
 .rw[iN h,iN (λg=>h g.2)]
theorem AU(c o:Nat)(m:Mz):RW (lK c o m)=RW m:=Ls c o m
theorem Uo{c:Nat}(hl:Ln n m)(ho:o<RW m):Ln n (lK c o m):=λk hk=>by
 rw[AU]at hk;rw[vY ho];split
 .rw[List.length_map];exact hl o ho
 .exact hl k hk
theorem Pg(a:aw):ve (a.map (- ·))=λi=>-1*ve a i:=funext λj=>by
 show nth 0 (a.map (- ·)) j = -1*nth 0 a j
 simp[GK]
theorem ad5{c:Nat}(ho:o<RW m):iD m (lK c o m):=λv=>by
 have ho':o<RW (lK c o m):=by rw[AU];exact ho
 constructor
 .refine zV λk hk=>?_
  by_cases h:k=o∧eZ m o c<0
  .have:=(j9 ho').mul (-1);rw[vY ho,ip ⟨rfl,h.2⟩,Pg]at this;obtain⟨rfl,_⟩:=h;have e:(λi=>-1*(-1*ve (nth [] m k) i))=ve (nth [] m k):=funext λi=>by omega
   rw[e]at this;exact this
  .have:=j9 (m:=lK c o m) (i:=k) (by grind[AU])
   grind[vY]
 .refine zV λk hk=>?_
  rw[AU]at hk;rw[vY ho];split
  .rw[Pg];exact(j9 ho).mul _
  grind[j9]
def pM(c o r i:Nat)(b:Bool)(m:Mz):Bool×Mz:=j8 [] (λr=>r) (λ_ r=>r) c o r i b m
def rJ(c o r i:Nat)(m:Mz):Mz:=oH [] (λr=>r) (λ_ r=>r) c o r i m
structure B8(n c o i r:Nat)(m m':Mz):Prop where
 len:RW m'=RW m
 ln:Ln n m'
 sp:iD m m'
 out:∀k,(k<i∨i+r<=k)->nth [] m' k=nth [] m k
 inn:∀k,i<=k->k<i+r->∀j,eZ m' k j=eZ m k j-(eZ m k c).fdiv (eZ m o c)*eZ m o j
theorem Qd{c r:Nat}(hl:Ln n m)(ho:o<RW m)(hi:i+(r+1)<=RW m)(hoi:o<i∨i+(r+1)<=o)(h:B8 n c o (i+1) r (iZ c o m i) m'):B8 n c o i (r+1) m m':=by
 have eo:nth [] (iZ c o m i) o=nth [] m o:=sj aa aa;refine⟨h.len.trans (qy ..),h.ln,(ad3 hl aa ho aa).trans h.sp,λk hk=>?_,λk h1 h2 j=>?_⟩
 .rw[h.out k aa,sj aa aa]
 .by_cases hki:k=i
  .subst hki;have e1:nth [] m' k=nth [] (iZ c o m k) k:=h.out k aa
   show nth 0 (nth [] m' k) j=_
   rw[e1];have:=XQ (c:=c) hl (by omega:k<RW m) ho k j
   grind
  .have e2:=h.inn k aa aa j;have e3:nth [] (iZ c o m i) k=nth [] m k:=sj aa hki
   grind
theorem Jr{n c o:Nat}:∀(r i:Nat){m:Mz},Ln n m->o<RW m->i+r<=RW m->(o<i∨i+r<=o)->B8 n c o i r m (rJ c o r i m)
 |0,i,m,hl,ho,hi,hoi=>⟨rfl,hl,iD.refl m,λ_ _=>rfl,λk h1 h2=>by omega⟩
 | r+1,i,m,hl,ho,hi,hoi=>by
  have ih:=Jr (c:=c) r (i+1) (m:=iZ c o m i) (LL hl aa ho) (by rw[qy];exact ho) (by grind[qy]) aa;exact Qd hl ho hi hoi ih
theorem E7{n c o:Nat}:∀(r i:Nat)(b:Bool){m:Mz},Ln n m->o<RW m->i+r<=RW m->(o<i∨i+r<=o)->B8 n c o i r m (pM c o r i b m).2∧((pM c o r i b m).1=SM->b=SM∧∀k,i<=k->k<i+r->(eZ m k c).fmod (eZ m o c)=0)
 |0,i,b,m,hl,ho,hi,hoi=>⟨⟨rfl,hl,iD.refl m,λ_ _=>rfl,λk h1 h2=>by omega⟩,λh=>⟨h,λk h1 h2=>by omega⟩⟩
 | r+1,i,b,m,hl,ho,hi,hoi=>by
  have ih:=E7 (c:=c) r (i+1) (b||decide ((eZ m i c).fmod (eZ m o c)≠0)) (m:=iZ c o m i) (LL hl aa ho) (by rw[qy];exact ho) (by grind[qy]) aa;refine⟨Qd hl ho hi hoi ih.1,λh=>?_⟩;have⟨h1,h2⟩:=ih.2 h;simp[Bool.or_eq_false_iff,decide_eq_false_iff_not,Decidable.not_not]at h1;refine⟨h1.1,λk a1 a2=>?_⟩;by_cases hki:k=i
  .grind
  .have eo:nth [] (iZ c o m i) o=nth [] m o:=sj aa aa;have ek:nth [] (iZ c o m i) k=nth [] m k:=sj aa hki
   grind
def aZ(c:Nat)(m:Mz)(r i:Nat)(a:Int):Int:=ly [] (λr=>r) c m r i a
theorem IW(c:Nat)(m:Mz)(o:Nat):∀(r i:Nat)(a:Int),(a<0∧(∀k,o<=k->k<i->eZ m k c=0)∨(o:Int)<=a∧a<i∧eZ m a.toNat c≠0)->o<=i ->
  (aZ c m r i a<0∧(∀k,o<=k->k<i+r->eZ m k c=0)∨(o:Int)<=aZ c m r i a∧aZ c m r i a<(i+r:Nat)∧eZ m (aZ c m r i a).toNat c≠0)
 |0,i,a,h,hi=>by trivial
 | r+1,i,a,h,hi=>by
  have key:aZ c m (r+1) i a=aZ c m r (i+1) (if eZ m i c≠0∧(a<0∨(eZ m i c).natAbs<(eZ m a.toNat c).natAbs)then i else a):=rfl;rw[key];have e:i+1+r=i+(r+1):=aa;rw[<-e];refine IW c m o r (i+1) _ ?_ aa;split
  .rename_i g;exact .inr ⟨aa,aa,ae⟩
  .rename_i g;rcases h with⟨h1,h2⟩|⟨h1,h2,h3⟩
   .refine .inl ⟨h1,λk a1 a2=>?_⟩;by_cases hk:k=i
    .grind
    .exact h2 k a1 aa
   .exact .inr ⟨h1,aa,h3⟩
structure Hm(n c o:Nat)(L:Nat->Nat)(m:Mz):Prop where
 le:o<=RW m
 ln:Ln n m
 lt:∀i,i<o->L i<c
 inc:∀i j,i<j->j<o->L i<L j
 pos:∀i,i<o->0<eZ m i (L i)
 low:∀i,i<o->∀j,j<L i->eZ m i j=0
 red:∀i j,i<j->j<o->0<=eZ m i (L j)∧eZ m i (L j)<eZ m j (L j)
 zer:∀k,o<=k->k<RW m->∀j,j<c->eZ m k j=0
theorem VL{c:Nat}(H:Hm n c o L m)(hl:RW m'=RW m)(hn:Ln n m')(h1:∀i,i<o->nth [] m' i=nth [] m i)(h2:∀k,o<=k->k<RW m->∀j,j<c->eZ m' k j=0):Hm n c o L m' where
 le:=by rw[hl];exact H.le
 ln:=hn
 lt:=H.lt
 inc:=H.inc
 pos:=λi hi=>by have:=H.pos i hi;grind
 low:=λi hi j hj=>by grind[Hm.low]
 red:=λi j hij hj=>by have:=H.red i j hij hj;simp[eZ,h1 i aa,h1 j hj];omega
 zer:=λk a b j hj=>h2 k a aa j hj
theorem akS{c:Nat}(H:Hm n c o L m)(h:∀k,o<=k->k<RW m->eZ m k c=0):Hm n (c+1) o L m where
 le:=H.le
 ln:=H.ln
 lt:=λi hi=>by have:=H.lt i hi;omega
 inc:=H.inc
 pos:=H.pos
 low:=H.low
 red:=H.red
 zer:=λk a b j hj=>by
  by_cases e:j=c
  .grind
  .exact H.zer k a b j aa
theorem akT{c:Nat}(H:Hm n c o L m)(ho:o<RW m)(h0:eZ m o c≠0)(h1:∀k,o<k->k<RW m->eZ m k c=0):
  Hm n (c+1) (o+1) (λi=>if i=o then c else L i) (rJ c o o 0 (lK c o m))∧iD m (rJ c o o 0 (lK c o m))∧RW (rJ c o o 0 (lK c o m))=RW m:=by
 have⟨m3,h3⟩:=bD (lK c o m);have l3:RW m3=RW m:=by rw[h3,AU]
 have n3:Ln n m3:=by rw[h3];exact Uo H.ln ho
 have r3:∀k,k≠o->nth [] m3 k=nth [] m k:=λk hk=>by rw[h3,vY ho,iN (λg=>hk g.1)]
 have o3:∀j,eZ m3 o j=if eZ m o c<0 then-eZ m o j else eZ m o j:=λj=>by
  simp[eZ,h3];rw[vY ho];by_cases g:eZ m o c<0
  .rw[ip ⟨rfl,g⟩,ip g,GK]
  .rw[iN (λx=>g x.2),iN g]
 have p3:0<eZ m3 o c:=by rw[o3];split<;>omega
 have z3:∀j,j<c->eZ m3 o j=0:=λj hj=>by grind[Hm.zer]
 have U:=Jr (c:=c) (o:=o) o 0 n3 aa aa (.inr aa);rw[<-h3];have⟨m4,h4⟩:=bD (rJ c o o 0 m3);rw[<-h4]at U ⊢
 have i4:∀i,i<o->∀j,eZ m4 i j=eZ m i j-(eZ m i c).fdiv (eZ m3 o c)*eZ m3 o j:=λi hi j=>by
  have:=U.inn i aa aa j;rw[this];simp[eZ,r3 i aa]
 have j4:∀i,i<o->∀j,j<c->eZ m4 i j=eZ m i j:=λi hi j hj=>by grind
 have k4:∀k,o<=k->∀j,eZ m4 k j=eZ m3 k j:=λk hk j=>by simp[eZ,U.out k (.inr aa)]
 have c4:∀i,i<o->0<=eZ m4 i c∧eZ m4 i c<eZ m3 o c:=λi hi=>by
  have e:eZ m4 i c=(eZ m i c).fmod (eZ m3 o c):=by
   rw[i4 i hi c,Int.fmod_def,Yi]
  simp_all[Int.fmod_nonneg_of_pos,Int.fmod_lt_of_pos]
 refine⟨⟨by rw[U.len];omega,U.ln,λi hi=>?_,λi j hij hj=>?_,λi hi=>?_,λi hi j hj=>?_,λi j hij hj=>?_,λk a b j hj=>?_⟩,?_,by rw[U.len,l3]⟩
 .show(if i=o then c else L i)<c+1
  split
  .omega
  .have:=H.lt i aa;omega
 .show(if i=o then c else L i)<(if j=o then c else L j)
  rw[iN aa];split
  .exact H.lt i aa
  .exact H.inc i j hij aa
 .show 0<eZ m4 i (if i=o then c else L i)
  by_cases e:i=o
  .grind
  .rw[iN e,j4 i aa _ (H.lt i aa)];exact H.pos i aa
 .have hj:j<(if i=o then c else L i):=hj;by_cases e:i=o
  .grind
  .rw[iN e]at hj;have:=H.lt i aa;rw[j4 i aa _ aa];exact H.low i aa j hj
 .show 0<=eZ m4 i (if j=o then c else L j)∧eZ m4 i (if j=o then c else L j)<eZ m4 j (if j=o then c else L j)
  by_cases e:j=o
  .rw[ip e,e,k4 o (Z8 _)];exact c4 i aa
  .rw[iN e,j4 i aa _ (H.lt j aa),j4 j aa _ (H.lt j aa)];exact H.red i j hij aa
 .rw[U.len,l3]at b;rw[k4 k aa];have e:eZ m3 k j=eZ m k j:=by simp[eZ,r3 k aa]
  rw[e];by_cases g:j=c
  .subst g;exact h1 k aa b
  .exact H.zer k aa b j aa
 grind[ad5,iD.trans,B8.sp]
def oS(B c f o:Nat)(m:Mz):Option (Nat×Mz):=lZ [] (λr=>r) (λ_ r=>r) B c f o m
theorem MJ{n c B:Nat}:∀(f:Nat){o:Nat}{L:Nat->Nat}{m m':Mz}{o':Nat},Hm n c o L m->o<RW m->oS B c f o m=Wf (o',m')->(∃L',Hm n (c+1) o' L' m')∧iD m m'∧RW m'=RW m
 |0,o,L,m,m',o',H,ho,h=>by cases h
 | f+1,o,L,m,m',o',H,ho,h=>by
  have key:oS B c (f+1) o m=if(m.all λa=>BY B a)=Th then
   (if aZ c m (RW m-o) o (-1)<0 then Wf (o,m)else
    if(pM c o (RW m-(o+1)) (o+1) SM (lG m o (aZ c m (RW m-o) o (-1)).toNat)).1=Th then oS B c f o (pM c o (RW m-(o+1)) (o+1) SM (lG m o (aZ c m (RW m-o) o (-1)).toNat)).2
    else Wf (o+1,rJ c o o 0 (lK c o (pM c o (RW m-(o+1)) (o+1) SM (lG m o (aZ c m (RW m-o) o (-1)).toNat)).2)))else Vc:=rfl
  rw[key]at h;have A:=IW c m o (RW m-o) o (-1) (.inl ⟨aa,λk a b=>by omega⟩) (Z8 _);have⟨a,ha⟩:=bD (aZ c m (RW m-o) o (-1));rw[<-ha]at A h;split at h
  case isFalse=>cases h
  split at h
  .rename_i g;cases h;rcases A with⟨_,A⟩|⟨A,_⟩
   .exact⟨⟨L,akS H λk h1 h2=>A k h1 aa⟩,iD.refl _,rfl⟩
   .omega
  .rename_i g;rcases A with⟨A,_⟩|⟨A1,A2,A3⟩
   .omega
   have hi:a.toNat<RW m:=aa;have⟨m1,h1⟩:=bD (lG m o a.toNat);have l1:RW m1=RW m:=by rw[h1,uZ]
   have n1:Ln n m1:=by rw[h1];exact LM H.ln ho hi
   have s1:iD m m1:=by rw[h1];exact ad4 ho hi
   have e1:∀k,nth [] m1 k=if k=a.toNat then nth [] m o else if k=o then nth [] m a.toNat else nth [] m k:=λk=>by grind[ti]
   have H1:Hm n c o L m1:=VL H l1 n1 (λi DE=>by rw[e1,iN aa,iN aa]) (λk a1 a2 j hj=>by
    simp[eZ,e1];split
    .grind[Hm.zer]
    .split
     .exact H.zer a.toNat aa hi j hj
     grind[Hm.zer])
   have p1:eZ m1 o c≠0:=by
    simp only[eZ,e1];split
    .grind
    .trivial
   rw[<-h1]at h;have S:=E7 (n:=n) (c:=c) (o:=o) (RW m-(o+1)) (o+1) SM n1 aa aa (.inl aa);have⟨s,hs⟩:=bD (pM c o (RW m-(o+1)) (o+1) SM m1);rw[<-hs]at S h;have⟨S1,S2⟩:=S;have l2:s.2.length=RW m:=by rw[S1.len,l1]
   have eo:nth [] s.2 o=nth [] m1 o:=S1.out o (.inl aa)
   have H2:Hm n c o L s.2:=VL H1 S1.len S1.ln (λi DE=>S1.out i (.inl aa)) (λk a1 a2 j hj=>by
    by_cases hk:k=o
    .subst hk;simp[eZ,eo];exact H1.zer k (Z8 _) aa j hj
    .rw[S1.inn k aa aa j,H1.zer k a1 a2 j hj,H1.zer o (Z8 _) aa j hj];simp)
   split at h
   .have ih:=MJ f H2 aa h;exact⟨ih.1,(s1.trans S1.sp).trans ih.2.1,by rw[ih.2.2,l2]⟩
   .rename_i gs;cases h;have z:=S2 ae
    have E:=akT (c:=c) H2 aa ae (λk a1 a2=>by
     rw[S1.inn k aa aa c];have:=z.2 k aa aa;rw[Int.fmod_def,Yi]at this;omega)
    exact⟨⟨_,E.1⟩,(s1.trans S1.sp).trans E.2.1,by rw[E.2.2,l2]⟩
def IP(B f r c o:Nat)(m:Mz):Option (Nat×Mz):=kC [] (λr=>r) (λ_ r=>r) B f r c o m
theorem VM{n B f:Nat}:∀(r:Nat){c o:Nat}{L:Nat->Nat}{m m':Mz}{o':Nat},Hm n c o L m->IP B f r c o m=Wf (o',m')->(∃L',Hm n (c+r) o' L' m')∧iD m m'∧RW m'=RW m
 | 0,c,o,L,m,m',o',H,h=>by
  cases h
  grind[iD.refl]
 | r+1,c,o,L,m,m',o',H,h=>by
  have h2:kC [] (λr=>r) (λ_ r=>r) B f (r+1) c o m=Wf (o',m'):=h;simp[kC]at h2;split at h2
  .rename_i ho;split at h2
   .rename_i o1 m1 hr;have⟨⟨L1,H1⟩,s1,l1⟩:=MJ f H ho hr;have⟨⟨L2,H2⟩,s2,l2⟩:=VM r H1 h2;exact⟨⟨L2,by rw[show c+(r+1)=c+1+r by omega];exact H2⟩,s1.trans s2,by rw[l2,l1]⟩
   trivial
  .rename_i ho;cases h2;have e:∀k,o<=k->k<RW m->False:=λk a b=>by omega
   exact⟨⟨L,⟨H.le,H.ln,λi hi=>by have:=H.lt i hi;omega,H.inc,H.pos,H.low,H.red,λk a b=>absurd (e k a b) id⟩⟩,iD.refl _,rfl⟩
theorem HP{B f columns:Nat}(hl:Ln n m)(h:mU B f columns m=Wf (o,m')):(∃L,Hm n columns o L m')∧iD m m'∧RW m'=RW m:=by
 have H:Hm n 0 0 (λ_=>0) m:=⟨aa,hl,λi hi=>by omega,λi j h1 h2=>by omega,λi hi=>by omega,λi hi=>by omega,λi j h1 h2=>by omega,λk a b j hj=>by omega⟩;have:=VM (n:=n) (B:=B) (f:=f) columns H h
 grind
def jv(L:Nat->Nat)(m:Mz):Nat->Nat->List (Nat×Ve)
 |0,_=>[]
 |r+1,i=>(L i,ve (nth [] m i))::jv L m r (i+1)
theorem yo{L:Nat->Nat}{m:Mz}:∀{r i:Nat} {x},x∈jv L m r i->∃k,i<=k∧k<i+r∧x=(L k,ve (nth [] m k))
 |0,i,x,h=>by trivial
 | r+1,i,x,h=>by
  simp[jv,Zx]at h;rcases h with rfl|h
  .exact⟨i,aa,aa,rfl⟩
  .have⟨k,a,b,e⟩:=yo h;exact⟨k,aa,aa,e⟩
theorem sH{n c o:Nat}{L:Nat->Nat}{m:Mz}(H:Hm n c o L m):∀(r i b:Nat),i+r=o->(i<o->b<=L i)->fV b (jv L m r i)
 |0,i,b,e,h=>trivial
 | r+1,i,b,e,h=>by
  refine⟨⟨h aa,H.pos i aa,λj hj=>H.low i aa j hj⟩,λx hx=>?_,sH H r (i+1) (L i+1) aa (λhi=>by have:=H.inc i (i+1) aa hi;omega)⟩;obtain⟨k,a1,a2,rfl⟩:=yo hx;exact H.red i k aa aa
theorem ab6{c:Nat}(H:Hm n c o L m)(hc:n<=c)(h1:o<=k)(h2:k<RW m):ve (nth [] m k)=λ_=>0:=funext λj=>by
 by_cases h:j<c
 .exact H.zer k h1 h2 j h
 .show nth 0 (nth [] m k) j=0
  have:=H.ln k h2;rw[nth,Z6,List.getElem?_eq_none aa];rfl
theorem sG{c:Nat}(H:Hm n c o L m)(hc:n<=c)(v:Ve):bV (vs (jv L m o 0)) v↔eQ m v:=by
 have key:∀r i k,i<=k->k<i+r->ve (nth [] m k)∈vs (jv L m r i):=by
  intro r
  induction r with
  |zero=>omega
  | succ r ih=>
   intro i k a b;simp only[vs,jv,Zv,Zx];by_cases e:k=i
   .exact .inl (by rw[e])
   .exact .inr (ih (i+1) k aa aa)
 constructor
 .intro h;refine bV.le (λg hg=>?_) h;obtain⟨x,hx,rfl⟩:=Zw.1 hg;obtain⟨k,a1,a2,rfl⟩:=yo hx;exact j9 (by have:=H.le;omega)
 .intro h;refine bV.le (λg hg=>?_) h;obtain⟨r,hr,rfl⟩:=Zw.1 hg;obtain⟨k,hk,rfl⟩:=Zj.1 hr;have e:m[k]=nth [] m k:=by rw[nth,Z6,List.getElem?_eq_getElem hk];rfl
  rw[e];by_cases hko:k<o
  .exact bV.mem (key o 0 k aa aa)
  .rw[ab6 H hc aa hk];exact bV.zero _
theorem ab7{a b:aw}(hl:RW a=RW b)(h:ve a=ve b):a=b:=by
 refine Wl hl λi h1 h2=>?_
 have:=congrFun h i
 grind[ve,nth]
theorem Be(L:Nat->Nat)(m:Mz):∀r i,RW (jv L m r i)=r
 |0,_=>rfl
 |r+1,i=>by simp[jv,Be L m r (i+1)]
theorem UV{L L':Nat->Nat}{m m':Mz}:∀{r i:Nat},jv L m r i=jv L' m' r i->∀k,i<=k->k<i+r->ve (nth [] m k)=ve (nth [] m' k)
 |0,i,_,k,a,b=>by omega
 | r+1,i,h,k,a,b=>by
  simp[jv,List.cons.injEq,Z5]at h;by_cases e:k=i
  .grind
  .exact UV h.2 k aa aa
def dK:Nat->Ve->Ve->Int
 |0,_,_=>0
 |n+1,a,b=>dK n a b+a n*b n
theorem BE(a u v:Ve):∀n,dK n a (λi=>u i+v i)=dK n a u+dK n a v
 |0=>rfl
 |n+1=>by simp[dK,BE a u v n];grind
theorem yP(a u:Ve)(k:Int):∀n,dK n a (λi=>k*u i)=k*dK n a u
 |0=>by simp[dK]
 |n+1=>by simp[dK,yP a u k n];grind
theorem wK(a:Ve):∀n,dK n a (λ_=>0)=0
 |0=>rfl
 |n+1=>by simp[dK,wK a n]
theorem wL(a b:Ve):∀n,dK n a b=dK n b a
 |0=>rfl
 |n+1=>by simp only[dK,wL a b n];grind
def dG(n:Nat)(S:Ve->Prop)(v:Ve):Prop:=(∀u,S u->dK n u v=0)∧∀j,n<=j->v j=0
theorem Mh{S T:Ve->Prop}(h:∀u,S u->T u)(hv:dG n T v):dG n S v:=⟨λu hu=>hv.1 u (h u hu),hv.2⟩
theorem akb{S:Ve->Prop}(hS:∀u,S u->∀j,n<=j->u j=0)(v:Ve):dG n (dG n (dG n S)) v↔dG n S v:=by
 constructor
 .exact λh=>Mh (λu hu=>⟨λw hw=>by rw[wL];exact hw.1 u hu,hS u hu⟩) h
 .exact λh=>⟨λu hu=>by rw[wL];exact hu.1 v h,h.2⟩
theorem D7:∀{m:List Ve},(∀g∈m,dK n g v=0)->∀{u},bV m u->dK n u v=0
 | m,h,u,⟨ks,e⟩=>by
  subst e;rw[wL]
  induction m generalizing ks with
  |nil=>cases ks<;>exact wK v n
  | cons g m ih=>
   cases ks with
   |nil=>exact wK v n
   | cons k ks=>
    have e:gv (k::ks) (g::m)=λi=>(λi=>k*g i) i+gv ks m i:=rfl
    rw[e,BE,yP,ih (λx hx=>h x (by simp[hx])) ks,wL v g,h g ac];simp
theorem zq(n:Nat)(m:Mz):RW (iE n m)=n:=by simp[iE]
theorem O3{c:Nat}(hc:c<n):nth [] (iE n m) c=m.map (λr=>nth 0 r c)++(So n (0:Int)).set c 1:=by rw[nth,Z6,iE,List.getElem?_map,List.getElem?_range hc];rfl
theorem Ci{c:Nat}(hc:c<n)(i:Nat):ve (nth [] (iE n m) c) i=if i<RW m then ve (nth [] m i) c else if i=RW m+c then 1 else 0:=by
 rw[O3 hc]
 show nth 0 _ i=_
 by_cases h:i<RW m
 .rw[ip h,nth,Z6,List.getElem?_append_left ae,List.getElem?_map,List.getElem?_eq_getElem h];have e:nth [] m i=m[i]:=by rw[nth,Z6,List.getElem?_eq_getElem h];rfl
  rw[e];rfl
 .rw[iN h,nth,Z6,List.getElem?_append_right ae,List.length_map,List.getElem?_set,Y6];by_cases e:i=RW m+c
  .rw[ip aa,ip hc,ip e];rfl
  .rw[iN aa,iN e,List.getElem?_replicate]
   grind
def jZ(n:Nat)(m:Mz)(v:Ve):Prop:=(∀i,i<RW m->v i=dK n (ve (nth [] m i)) λc=>v (RW m+c))∧∀j,RW m+n<=j->v j=0
theorem jZ.add(hu:jZ n m u)(hv:jZ n m v):jZ n m λi=>u i+v i:=
 ⟨λi hi=>by
  show u i+v i=dK n _ λc=>u (RW m+c)+v (RW m+c)
  rw[hu.1 i hi,hv.1 i hi,<-BE],λj hj=>by simp only[hu.2 j hj,hv.2 j hj];rfl⟩
theorem jZ.mul(k:Int)(hu:jZ n m u):jZ n m λi=>k*u i:=
 ⟨λi hi=>by
  show k*u i=dK n _ λc=>k*u (RW m+c)
  rw[hu.1 i hi,<-yP],λj hj=>by simp only[hu.2 j hj];simp⟩
theorem jZ.zero(n:Nat)(m:Mz):jZ n m λ_=>0:=⟨λi hi=>(wK _ _).symm,λ_ _=>rfl⟩
theorem Ih(a:Ve)(c:Nat):∀n,dK n a (λj=>if j=c then 1 else 0)=if c<n then a c else 0
 |0=>rfl
 | n+1=>by
  simp[dK,Ih a c n];by_cases h:n=c
  .grind
  .rw[iN h];by_cases g:c<n
   .rw[ip g,ip aa];simp
   .rw[iN g,iN aa];simp
theorem abH{c:Nat}(hc:c<n):jZ n m (ve (nth [] (iE n m) c)):=by
 refine⟨λi hi=>?_,λj hj=>?_⟩
 ·have e:(λx=>ve (nth [] (iE n m) c) (RW m+x))=λj=>if j=c then 1 else 0:=funext λx=>by
   rw[Ci hc,iN aa];by_cases g:x=c
   .rw[ip aa,ip g]
   .rw[iN aa,iN g]
  grind[Ih,Ci]
 .rw[Ci hc,iN aa,iN aa]
theorem abI(h:eQ (iE n m) v):jZ n m v:=by
 obtain⟨ks,rfl⟩:=h
 have key:∀(l:List Ve),(∀g∈l,jZ n m g)->∀ks,jZ n m (gv ks l):=by
  intro l
  induction l with
  |nil=>intro _ ks;cases ks<;>exact jZ.zero n m
  | cons g l ih=>
   intro hg ks;cases ks with
   |nil=>exact jZ.zero n m
   |cons k ks=>exact((hg g ac).mul k).add (ih (λx hx=>hg x ae) ks)
 refine key _ (λg hg=>?_) ks;obtain⟨r,hr,rfl⟩:=Zw.1 hg;obtain⟨c,hc,rfl⟩:=Zj.1 hr;have hc':c<n:=by rw[zq]at hc;exact hc
 have e:(iE n m)[c]=nth [] (iE n m) c:=by rw[nth,Z6,List.getElem?_eq_getElem hc];rfl
 grind[abH]
theorem O4{n:Nat}{m:Mz}(v:Ve):∀t,t<=n->∃s,eQ (iE n m) s∧(∀i,i<RW m->s i=dK t (ve (nth [] m i)) λc=>v (RW m+c))∧(∀c,c<t->s (RW m+c)=v (RW m+c))∧∀c,t<=c->s (RW m+c)=0
 |0,_=>⟨λ_=>0,bV.zero _,λi hi=>rfl,λc hc=>by omega,λc hc=>rfl⟩
 | t+1,ht=>by
  have⟨s,h1,h2,h3,h4⟩:=O4 (n:=n) (m:=m) v t aa;have hr:eQ (iE n m) (ve (nth [] (iE n m) t)):=j9 (m:=iE n m) (i:=t) (by grind[zq]);have e1:=λi=>Ci (n:=n) (m:=m) (c:=t) aa i
  refine⟨λi=>s i+v (RW m+t)*ve (nth [] (iE n m) t) i,h1.add (hr.mul _),λi hi=>?_,λc hc=>?_,λc hc=>?_⟩
  .grind[dK]
  .show s (RW m+c)+v (RW m+t)*ve (nth [] (iE n m) t) (RW m+c)=_
   rw[e1,iN aa];by_cases g:c=t
   .grind
   .rw[h3 c aa,iN aa];simp
  .show s (RW m+c)+v (RW m+t)*ve (nth [] (iE n m) t) (RW m+c)=_
   rw[e1,iN aa,h4 c aa,iN aa];simp
theorem abG(h:jZ n m v):eQ (iE n m) v:=by
 have⟨s,h1,h2,h3,h4⟩:=O4 (n:=n) (m:=m) v n (Z8 _)
 have e:s=v:=funext λi=>by
  by_cases hi:i<RW m
  .rw[h2 i hi,h.1 i hi]
  .obtain⟨c,rfl⟩:∃c,i=RW m+c:=⟨i-RW m,aa⟩;by_cases hc:c<n
   .grind
   .rw[h4 c aa,h.2 _ aa]
 grind
theorem O2(v:Ve):eQ (iE n m) v↔jZ n m v:=⟨abI,abG⟩
theorem MI:∀{m:List (Nat×Ve)}{o:Nat},fV o m->∀(k:Nat){v:Ve},bV (vs m) v->(∀j,j<k->v j=0)->bV (vs (m.filter λx=>decide (k<=x.1))) v
 |[],o,H,k,v,hv,h0=>hv
 | (l,h)::m,o,H,k,v,hv,h0=>by
  by_cases g:k<=l
  ·have e:((l,h)::m).filter (λx=>decide (k<=x.1))=(l,h)::m:=List.filter_eq_self.2 λx hx=>by
    rcases Zx.1 hx with rfl|hx
    .simpa using g
    .have:=yJ H.2.2 x hx;simp only[dT];omega
   rw[e];exact hv
  ·have e:((l,h)::m).filter (λx=>decide (k<=x.1))=m.filter (λx=>decide (k<=x.1)):=by
    rw[List.filter_cons_of_neg (by simpa using g)]
   rw[e];exact MI H.2.2 k (HO H hv (h0 l aa)) h0
def dy(E:Nat)(m:Mz):Prop:=∀i j,(eZ m i j).natAbs<=E
theorem dy.mono(h:E<=E')(b:dy E m):dy E' m:=λi j=>Z1 (b i j) h
theorem HX{a b:Int}(h:0<b):0<=a.fmod b∧a.fmod b<b:=⟨Int.fmod_nonneg_of_pos a h,Int.fmod_lt_of_pos a h⟩
theorem WR{a b:Int}(h:b<0):b<a.fmod b∧a.fmod b<=0:=by
 have:=HX (a:=-a) (b:=-b) aa
 simp_all
theorem WW{a b:Int}(h:b≠0):(a.fdiv b).natAbs<=a.natAbs:=by
 have key:∀(a b:Int),0<b->(a.fdiv b).natAbs<=a.natAbs:=λa b hb=>by
  have h1:=Int.mul_fdiv_add_fmod a b;have h2:=HX (a:=a) hb;generalize a.fdiv b=q at *;generalize a.fmod b=r at *;rcases Int.lt_trichotomy q 0 with hq|hq|hq
  .have h4:b*(-q)≥1*(-q):=Y0 aa aa;have h5:b*(-q) = -(b*q):=Int.mul_neg ..;rcases Int.lt_trichotomy a 0 with ha|ha|ha
   .have h6:b*(-q-1)≥1*(-q-1):=Y0 aa aa;have h7:b*(-q-1) = -(b*q)-b:=by rw[Int.mul_sub];omega
    omega
   .have h6:b*(-q)≥b*1:=Xq aa aa;omega
   .have h6:b*(-q)≥b*1:=Xq aa aa;omega
  .omega
  .have h4:b*q≥1*q:=Y0 aa aa;omega
 rcases Int.lt_trichotomy b 0 with hb|hb|hb
 .have:=key (-a) (-b) aa
  simp_all
 .omega
 grind
theorem aaS{B:Nat}(h:dy E m)(hE:E<10^B):(m.all λa=>BY B a)=Th:=by
 rw[Zz];intro r hr;obtain⟨i,hi,rfl⟩:=Zj.1 hr
 show(m[i].all λx=>decide (x.natAbs<10^B))=Th
 rw[Zz];intro x hx;obtain⟨j,hj,rfl⟩:=Zj.1 hx;have:=h i j
 grind[nth]
theorem JL{c r:Nat}{Q:Nat}(S:B8 n c o i r m m')(h:dy E m)(hq:∀k,i<=k->k<i+r->((eZ m k c).fdiv (eZ m o c)).natAbs<=Q):dy (E*(1+Q)) m':=λk j=>by
 have hE:E<=E*(1+Q):=Zc _ aa;by_cases hk:i<=k∧k<i+r
 .rw[S.inn k hk.1 hk.2 j];have h1:=Int.natAbs_sub_le (eZ m k j) ((eZ m k c).fdiv (eZ m o c)*eZ m o j);rw[Zl]at h1;have h2:=Zr (hq k hk.1 hk.2) (h o j);have h3:=h k j
  grind
 .have:eZ m' k j=eZ m k j:=by simp[eZ,S.out k aa]
  rw[this];exact Z1 (h k j) hE
theorem Qf{a:Nat}(ho:o<RW m)(ha:a<RW m)(h:dy E m):dy E (lG m o a):=λk j=>by
 simp[eZ,ti ho ha];split
 .exact h o j
 .split
  .exact h a j
  .exact h k j
theorem aig{c:Nat}(ho:o<RW m)(h:dy E m):dy E (lK c o m):=λk j=>by
 simp[eZ,vY ho];split
 .rw[GK];have:=h o j
  grind
 .exact h k j
theorem aa0(c:Nat)(m:Mz)(o:Nat):∀(r i:Nat)(a:Int),(0<=a->∀k,o<=k->k<i->eZ m k c≠0->(eZ m a.toNat c).natAbs<=(eZ m k c).natAbs)->(a<0->∀k,o<=k->k<i->eZ m k c=0)->o<=i ->
  0<=aZ c m r i a->∀k,o<=k->k<i+r->eZ m k c≠0->(eZ m (aZ c m r i a).toNat c).natAbs<=(eZ m k c).natAbs
 |0,i,a,h,_,hi=>by trivial
 | r+1,i,a,h,h0,hi=>by
  have key:aZ c m (r+1) i a=aZ c m r (i+1) (if eZ m i c≠0∧(a<0∨(eZ m i c).natAbs<(eZ m a.toNat c).natAbs)then i else a):=rfl;rw[key];have e:i+1+r=i+(r+1):=aa;rw[<-e];refine aa0 c m o r (i+1) _ ?_ ?_ aa
  .split
   .rename_i g;intro _ k a1 a2 hk;by_cases ek:k=i
    .grind
    .rcases g.2 with g2|g2
     .exact absurd (h0 g2 k a1 aa) hk
     .by_cases ha:0<=a
      .grind
      .exact absurd (h0 aa k a1 aa) hk
   .rename_i g;intro ha k a1 a2 hk;by_cases ek:k=i
    .grind
    .exact h ha k a1 aa hk
  .split
   .omega
   .rename_i g;intro ha k a1 a2;by_cases ek:k=i
    .grind
    .exact h0 ha k a1 aa
theorem JM{n c o:Nat}:∀(r i:Nat)(b:Bool){m:Mz},Ln n m->o<RW m->i+r<=RW m->(o<i∨i+r<=o)->(pM c o r i b m).1=Th->b=Th∨∃k,i<=k∧k<i+r∧(eZ m k c).fmod (eZ m o c)≠0
 |0,i,b,m,hl,ho,hi,hoi,h=>.inl h
 | r+1,i,b,m,hl,ho,hi,hoi,h=>by
  have ih:=JM (c:=c) r (i+1) (b||decide ((eZ m i c).fmod (eZ m o c)≠0)) (m:=iZ c o m i) (LL hl aa ho) (by grind[qy]) (by grind[qy]) aa h;rcases ih with ih|⟨k,a1,a2,a3⟩
  .grind
  .have eo:nth [] (iZ c o m i) o=nth [] m o:=sj aa aa;have ek:nth [] (iZ c o m i) k=nth [] m k:=sj aa aa;simp only[eZ,eo,ek]at a3;exact .inr ⟨k,aa,aa,a3⟩
theorem Gc(B c f o:Nat)(m:Mz):oS B c (f+1) o m=if(m.all λa=>BY B a)=Th then
   (if aZ c m (RW m-o) o (-1)<0 then Wf (o,m)else
    if(pM c o (RW m-(o+1)) (o+1) SM (lG m o (aZ c m (RW m-o) o (-1)).toNat)).1=Th then oS B c f o (pM c o (RW m-(o+1)) (o+1) SM (lG m o (aZ c m (RW m-o) o (-1)).toNat)).2
    else Wf (o+1,rJ c o o 0 (lK c o (pM c o (RW m-(o+1)) (o+1) SM (lG m o (aZ c m (RW m-o) o (-1)).toNat)).2)))else Vc:=rfl
theorem KQ{B c:Nat}:∀(f g:Nat){o:Nat}{m:Mz}{r:Nat×Mz},oS B c f o m=Wf r->f<=g->oS B c g o m=Wf r
 |0,g,o,m,r,h,_=>by cases h
 |f+1,0,o,m,r,h,hg=>by omega
 | f+1,g+1,o,m,r,h,hg=>by
  rw[Gc]at h ⊢;split at h
  .rename_i h1;rw[ip h1];split at h
   .grind
   .rename_i h2;rw[iN h2];split at h
    .rename_i h3;rw[ip h3];exact KQ f g h aa
    grind
  .cases h
theorem XP{c:Nat}(hl:Ln n m)(ho:o<RW m)(h0:eZ m o c≠0)(h:dy E m):dy (2*E*E) (rJ c o o 0 (lK c o m)):=by
 have h1:=aig (c:=c) ho h;have l1:RW (lK c o m)=RW m:=AU c o m
 have h2:eZ (lK c o m) o c≠0:=by
  simp only[eZ,vY ho];split
  .grind[GK]
  .exact h0
 have hE:1<=E:=by have:=h o c;omega
 refine dy.mono ?_ (JL (Q:=E) (Jr (c:=c) o 0 (Uo hl ho) aa aa (.inr aa)) h1 (λk _ _=>Z1 (WW h2) (h1 k c)));rw[Zm,Y1,Nat.mul_assoc,Nat.two_mul];have:E*1<=E*E:=Z4 _ hE;omega
theorem acH{p:Nat}(h:p<=M):2*p*(M-p)<=M*M:=by
 obtain⟨d,rfl⟩:∃d,M=p+d:=⟨M-p,aa⟩
 grind
theorem agW{p p':Nat}(h0:0<p)(h:p<=M)(h1:p'<=p)(h2:M/p=1->p'<=M-p):(1+M/p)*p*p'<=M*M:=by
 have hq:1<=M/p:=(Xt h0).2 aa;have hm:M/p*p<=M:=Wh M p;by_cases e:M/p=1
 .have:=h2 e;rw[e];exact Z1 (Z4 _ this) (acH h)
 .generalize M/p=q at *
  have h3:1+q<=q*q:=by
   have:2*q<=q*q:=Zu _ aa;omega
  calc (1+q)*p*p'<=q*q*p*p:=Zr (Zu _ h3) h1
   _=(q*p)*(q*p):=by rw[Nat.mul_assoc q q p,Nat.mul_assoc q (q*p) p,Nat.mul_assoc q p p,Nat.mul_assoc q p (q*p),Y2 p q p]
   _<=M*M:=Zr hm hm
structure ON(n c o:Nat)(s:Int)(E M:Nat)(m:Mz):Prop where
 ln:Ln n m
 ho:o<RW m
 hs:s=1∨s = -1
 col:∀k,o<=k->k<RW m->0<=s*eZ m k c∧s*eZ m k c<=M
 bd:dy E m
theorem agP{B c W:Nat}(hW:W<10^B){s:Int}:∀(p:Nat){E M:Nat}{m:Mz},ON n c o s E M m->1<=E->(∃k,o<=k∧k<RW m∧eZ m k c≠0∧(eZ m k c).natAbs<=p)->2*E*(M*M)*p<=W ->
  ∃f o' m',oS B c f o m=Wf (o',m')∧dy (2*W*W) m'∧o'=o+1:=by
 intro p
 induction p using Nat.strongRecOn with
 |ind p ih=>
 intro E M m S hE ⟨k0,k1,k2,k3,k4⟩ hw;have ho:=S.ho;have A:=IW c m o (RW m-o) o (-1) (.inl ⟨aa,λk a b=>by omega⟩) (Z8 _);have A2:=aa0 c m o (RW m-o) o (-1) (λh=>by omega) (λ_ k a b=>by omega) (Z8 _);have⟨a,ha⟩:=bD (aZ c m (RW m-o) o (-1));rw[<-ha]at A A2;rcases A with⟨_,A⟩|⟨a1,a2,a3⟩
 .exact absurd (A k0 k1 aa) k3
 have hi:a.toNat<RW m:=aa;have amin:=A2 aa;have⟨p0,hp0⟩:=bD ((eZ m a.toNat c).natAbs);have p0p:p0<=p:=by rw[hp0];exact Z1 (amin k0 k1 aa k3) k4
 have p0pos:0<p0:=aa;have ca:=S.col a.toNat aa hi;have sp0:s*eZ m a.toNat c=p0:=by rcases S.hs with h|h<;>subst h<;>omega
 have p0M:p0<=M:=aa;have⟨m1,h1⟩:=bD (lG m o a.toNat);have l1:RW m1=RW m:=by rw[h1,uZ]
 have n1:Ln n m1:=by rw[h1];exact LM S.ln ho hi
 have e1:∀k,nth [] m1 k=if k=a.toNat then nth [] m o else if k=o then nth [] m a.toNat else nth [] m k:=λk=>by grind[ti]
 have b1:dy E m1:=by rw[h1];exact Qf ho hi S.bd
 have eo:eZ m1 o c=eZ m a.toNat c:=by
  simp only[eZ,e1];split
  .grind
  .rw[ip trivial]
 have any1:∀k,o<=k->k<RW m->∃k',o<=k'∧k'<RW m∧eZ m1 k c=eZ m k' c:=λk q1 q2=>by
  simp[eZ,e1];split
  .grind
  .split
   .exact⟨a.toNat,aa,hi,rfl⟩
   grind
 have⟨Q,hQ⟩:=bD (M/p0)
 -- a row behind
 have row:∀k,o<=k->k<RW m->0<=(eZ m1 k c).fdiv (eZ m1 o c)∧((eZ m1 k c).fdiv (eZ m1 o c)).natAbs<=Q∧0<=s*(eZ m1 k c).fmod (eZ m1 o c)∧s*(eZ m1 k c).fmod (eZ m1 o c)<p0 ∧
   s*eZ m1 k c=p0*(eZ m1 k c).fdiv (eZ m1 o c)+s*(eZ m1 k c).fmod (eZ m1 o c)∧s*eZ m1 k c<=M:=λk q1 q2=>by
  have⟨k',r1,r2,r3⟩:=any1 k q1 q2;have c1:=S.col k' r1 r2;rw[<-r3]at c1;have d1:=Int.mul_fdiv_add_fmod (eZ m1 k c) (eZ m1 o c);have sp1:s*eZ m1 o c=p0:=by rw[eo];exact sp0
  have f1:0<=s*(eZ m1 k c).fmod (eZ m1 o c)∧s*(eZ m1 k c).fmod (eZ m1 o c)<p0:=by
   rcases S.hs with h|h
   .subst h;have:=HX (a:=eZ m1 k c) (b:=eZ m1 o c) aa;omega
   .subst h;have:=WR (a:=eZ m1 k c) (b:=eZ m1 o c) aa;omega
  generalize(eZ m1 k c).fdiv (eZ m1 o c)=q at *;generalize(eZ m1 k c).fmod (eZ m1 o c)=r at *;have g1:s*eZ m1 k c=p0*q+s*r:=by rw[<-d1,V4,<-Int.mul_assoc,sp1]
  have q0:0<=q:=by
   rcases Int.lt_or_le q 0 with hq|hq
   .have:(p0:Int)*q<=p0*(-1):=Xq aa aa;omega
   .exact hq
  refine⟨q0,?_,f1.1,f1.2,g1,c1.2⟩;rw[hQ,Xt p0pos]
  have:(q.natAbs*p0:Int)<=M:=by
   rw[Xb q0,Yi];omega
  omega
 have SW:=E7 (n:=n) (c:=c) (o:=o) (RW m-(o+1)) (o+1) SM n1 aa aa (.inl aa);have SR:=JM (n:=n) (c:=c) (o:=o) (RW m-(o+1)) (o+1) SM n1 aa aa (.inl aa);have⟨s2,hs2⟩:=bD (pM c o (RW m-(o+1)) (o+1) SM m1);rw[<-hs2]at SW SR;have⟨SW,_⟩:=SW
 have b2:dy (E*(1+Q)) s2.2:=JL SW b1 λk q1 q2=>(row k aa aa).2.1
 have l2:s2.2.length=RW m:=by rw[SW.len,l1]
 have eo2:eZ s2.2 o c=eZ m1 o c:=by simp[eZ,SW.out o (.inl aa)]
 have M1:1<=M:=aa
 have hEW:E*(1+Q)<=W:=by
  refine Z1 ?_ hw;have hQM:Q<=M:=by rw[hQ];exact Yv M p0
  have t1:M*1<=M*M:=Z4 _ M1;have t2:E*(1+Q)<=E*(2*(M*M)):=Z4 _ aa;have t3:E*(2*(M*M))*1<=E*(2*(M*M))*p:=Z4 _ aa;rw[Zp 2 E,Nat.mul_assoc E 2];omega
 have hE2:E<=E*(1+Q):=Zc _ aa;have hall:=aaS (B:=B) S.bd aa
 have step:∀f,oS B c (f+1) o m=if s2.1=Th then oS B c f o s2.2 else Wf (o+1,rJ c o o 0 (lK c o s2.2)):=λf=>by
  rw[Gc,ip hall,<-ha,iN aa,<-h1,<-hs2]
 cases hb:s2.1 with
 | false=>
  refine⟨1,_,_,by rw[step,hb];rfl,?_,rfl⟩;refine dy.mono ?_ (XP (c:=c) SW.ln aa aa b2);exact Zr (Z4 _ hEW) hEW
 | true=>
  rcases SR hb with h|⟨k,q1,q2,q3⟩
  .cases h
  have⟨r1,r2,r3,r4,r5,r6⟩:=row k aa aa;have⟨p',hp'⟩:=bD (((eZ m1 k c).fmod (eZ m1 o c)).natAbs);have sp':s*(eZ m1 k c).fmod (eZ m1 o c)=p':=by rcases S.hs with h|h<;>subst h<;>omega
  have p'lt:p'<p0:=aa
  have val:∀k,o<k->k<RW m->eZ s2.2 k c=(eZ m1 k c).fmod (eZ m1 o c):=λk a b=>by
   rw[SW.inn k aa aa c,Int.fmod_def,Yi]
  have S2:ON n c o s (E*(1+Q)) p0 s2.2:=⟨SW.ln,aa,S.hs,λk a b=>by
   by_cases hk:k=o
   .grind
   .rw[val k aa aa];have:=row k a aa;omega,b2⟩
  have hkey:(1+Q)*p0*p'<=M*M:=by
   rw[hQ];refine agW p0pos p0M aa λe=>?_
   rw[<-hQ]at e;have nz:eZ m1 k c≠0:=λhz=>q3 (by rw[hz,Int.zero_fmod])
   have⟨k',t1,t2,t3⟩:=any1 k aa aa;have hm:=amin k' t1 aa aa;rw[<-t3,<-hp0]at hm
   have hx:s*eZ m1 k c=(eZ m1 k c).natAbs:=by
    have:0<=s*eZ m1 k c:=by
     have:=S.col k' t1 t2;rw[<-t3]at this;exact this.1
    rcases S.hs with h|h<;>subst h<;>omega
   generalize(eZ m1 k c).fdiv (eZ m1 o c)=q at *
   have q1:q=1:=by
    rcases Int.lt_or_le q 1 with h|h
    .grind
    .omega
   subst q1;omega
  obtain ⟨f,o',m',g1,g2,g3⟩:=ih p' aa S2 aa ⟨k,aa,aa,by rw[val k aa aa];exact q3,by rw[val k aa aa];omega⟩ (by
   refine Z1 ?_ hw
   calc 2*(E*(1+Q))*(p0*p0)*p'=2*E*p0*((1+Q)*p0*p'):=by grind
    _<=2*E*p0*(M*M):=Z4 _ hkey
    _<=2*E*p*(M*M):=Zu _ (Z4 _ p0p)
    _=2*E*(M*M)*p:=by grind)
  exact⟨f+1,o',m',by rw[step,hb,ip rfl];exact g1,g2,g3⟩
theorem K3(E:Nat)(h:1<=E):∀k,1<=E^k:=λk=>Nat.one_le_pow k E h
theorem agS{B c:Nat}(hl:Ln n m)(ho:o<RW m)(hE:1<=E)(hb:dy E m)(hW:4*E^5<10^B):
  ∃f o' m',oS B c f o m=Wf (o',m')∧dy (32*E^10) m'∧(o'=o+1∨o'=o∧m'=m):=by
 have A:=IW c m o (RW m-o) o (-1) (.inl ⟨aa,λk a b=>by omega⟩) (Z8 _);have⟨a,ha⟩:=bD (aZ c m (RW m-o) o (-1));rw[<-ha]at A;have e4:=K3 E hE 4;have e9:=K3 E hE 9;have t5:E*1<=E*E^4:=Z4 _ e4;have t10:E*1<=E*E^9:=Z4 _ e9;have p5:E^5=E*E^4:=by rw[Nat.pow_succ,Zp]
 have p10:E^10=E*E^9:=by rw[Nat.pow_succ,Zp]
 have hall:=aaS (B:=B) hb aa;by_cases hneg:a<0
 .exact⟨1,o,m,by rw[Gc,ip hall,<-ha,ip hneg],hb.mono aa,.inr ⟨rfl,rfl⟩⟩
 rcases A with⟨h,_⟩|⟨a1,a2,a3⟩
 .omega
 have hi:a.toNat<RW m:=aa;have⟨p0,hp0⟩:=bD ((eZ m a.toNat c).natAbs);have p0pos:0<p0:=aa;have p0E:p0<=E:=by rw[hp0];exact hb _ _
 have⟨m1,h1⟩:=bD (lG m o a.toNat);have l1:RW m1=RW m:=by rw[h1,uZ]
 have n1:Ln n m1:=by rw[h1];exact LM hl ho hi
 have e1:∀k,nth [] m1 k=if k=a.toNat then nth [] m o else if k=o then nth [] m a.toNat else nth [] m k:=λk=>by grind[ti]
 have b1:dy E m1:=by rw[h1];exact Qf ho hi hb
 have eo:eZ m1 o c=eZ m a.toNat c:=by
  simp only[eZ,e1];split
  .grind
  .rw[ip trivial]
 have SW:=E7 (n:=n) (c:=c) (o:=o) (RW m-(o+1)) (o+1) SM n1 aa aa (.inl aa);have SR:=JM (n:=n) (c:=c) (o:=o) (RW m-(o+1)) (o+1) SM n1 aa aa (.inl aa);have⟨s2,hs2⟩:=bD (pM c o (RW m-(o+1)) (o+1) SM m1);rw[<-hs2]at SW SR;have⟨SW,_⟩:=SW
 have b2:dy (2*(E*E)) s2.2:=dy.mono (by
  rw[Zm,Y1];have:E*1<=E*E:=Z4 _ hE;omega) (JL (Q:=E) SW b1 λk q1 q2=>Z1 (WW aa) (b1 k c))
 have l2:s2.2.length=RW m:=by rw[SW.len,l1]
 have eo2:eZ s2.2 o c=eZ m1 o c:=by simp[eZ,SW.out o (.inl aa)]
 have step:∀f,oS B c (f+1) o m=if s2.1=Th then oS B c f o s2.2 else Wf (o+1,rJ c o o 0 (lK c o s2.2)):=λf=>by
  rw[Gc,ip hall,<-ha,iN hneg,<-h1,<-hs2]
 have q4:E*E*(E*E)*1<=E*E*(E*E)*E^6:=Z4 _ (K3 E hE 6);have q10:E*E*(E*E)*E^6=E^10:=by grind
 cases hbb:s2.1 with
 | false=>
  refine⟨1,_,_,by rw[step,hbb];rfl,?_,.inl rfl⟩;refine dy.mono ?_ (XP (c:=c) SW.ln aa aa b2);have:2*(2*(E*E))*(2*(E*E))=8*(E*E*(E*E)):=by grind
  omega
 | true=>
  rcases SR hbb with h|⟨k,q1,q2,q3⟩
  .cases h
  have val:∀k,o<k->k<RW m->eZ s2.2 k c=(eZ m1 k c).fmod (eZ m1 o c):=λk a b=>by
   rw[SW.inn k aa aa c,Int.fmod_def,Yi]
  obtain ⟨s,hs,sp0⟩:∃s:Int,(s=1∨s = -1)∧s*eZ m1 o c=p0:=by
   rw[eo];by_cases h:0<eZ m a.toNat c
   .exact⟨1,.inl rfl,aa⟩
   .exact⟨-1,.inr rfl,aa⟩
  have sg:∀k,0<=s*(eZ m1 k c).fmod (eZ m1 o c)∧s*(eZ m1 k c).fmod (eZ m1 o c)<p0:=λk=>by
   rcases hs with h|h
   .subst h;have:=HX (a:=eZ m1 k c) (b:=eZ m1 o c) aa;omega
   .subst h;have:=WR (a:=eZ m1 k c) (b:=eZ m1 o c) aa;omega
  have S2:ON n c o s (2*(E*E)) p0 s2.2:=⟨SW.ln,aa,hs,λk a b=>by
   by_cases hk:k=o
   .grind
   .rw[val k aa aa]
    grind,b2⟩
  have e2:1<=E*E:=by have:1*1<=E*E:=Zr hE hE;omega
  obtain ⟨f,o',m',g1,g2,g3⟩:=agP (B:=B) (W:=4*E^5) hW p0 S2 aa ⟨k,aa,aa,by rw[val k aa aa];exact q3,by
   rw[val k aa aa]
   grind⟩ (by
   calc 2*(2*(E*E))*(p0*p0)*p0<=2*(2*(E*E))*(E*E)*E:=Zr (Z4 _ (Zr p0E p0E)) p0E
    _=4*E^5:=by grind)
  exact ⟨f+1,o',m',ae,g2.mono (by
   have:2*(4*E^5)*(4*E^5)=32*E^10:=by grind
   omega),.inl g3⟩
def BH:Nat->Nat->Nat
 |0,d=>d
 |t+1,d=>BH t (10*d+2)
theorem YS:∀t d,d<=BH t d
 |0,d=>Z8 _
 |t+1,d=>by have:=YS t (10*d+2);grind[BH]
theorem aaf{n B:Nat}:∀(r:Nat){c o d:Nat}{L:Nat->Nat}{m:Mz},Hm n c o L m->dy (10^d) m->BH (RW m-o) d<=B->∃f0,∀f,f0<=f->∃o' m',IP B f r c o m=Wf (o',m')
 |0,c,o,d,L,m,H,hb,hd=>⟨0,λf _=>⟨o,m,rfl⟩⟩
 | r+1,c,o,d,L,m,H,hb,hd=>by
  by_cases ho:o<RW m
  .have e1:1<=10^d:=Nat.one_le_pow _ _ aa;have⟨t,ht⟩:∃t,RW m-o=t+1:=⟨RW m-o-1,aa⟩;rw[ht]at hd;have hd2:BH t (10*d+2)<=B:=hd;have:=YS t (10*d+2)
   have hW:4*(10^d)^5<10^B:=by
    rw[<-Wd];have h1:10^(d*5+1)<=10^B:=Z2 aa aa;have h2:10^(d*5+1)=10^(d*5)*10:=Nat.pow_succ ..;have h3:1<=10^(d*5):=Nat.one_le_pow _ _ aa;omega
   have⟨f1,o1,m1,g1,g2,g3⟩:=agS (c:=c) H.ln ho e1 hb hW;have⟨⟨L1,H1⟩,s1,l1⟩:=MJ f1 H ho g1
   have hb1:dy (10^(10*d+2)) m1:=g2.mono (by
    rw[<-Wd,Zp d 10,Yq];omega)
   have jw:∃d1,dy (10^d1) m1∧BH (RW m1-o1) d1<=B:=by
    rcases g3 with h|⟨h1,h2⟩
    .exact⟨_,hb1,by rw[l1,h,show RW m-(o+1)=t by omega];omega⟩
    .grind
   have⟨d1,b1,k1⟩:=jw;have⟨f2,hf2⟩:=aaf r H1 b1 k1;refine⟨max f1 f2,λf hf=>?_⟩;have⟨o',m',h⟩:=hf2 f aa;refine⟨o',m',?_⟩
   show kC [] (λr=>r) (λ_ r=>r) B f (r+1) c o m=Wf (o',m')
   have hr:lZ [] (λr=>r) (λ_ r=>r) B c f o m=Wf (o1,m1):=KQ f1 f g1 aa;simp[kC,ip ho,hr];exact h
  .refine⟨0,λf _=>⟨o,m,?_⟩⟩
   show kC [] (λr=>r) (λ_ r=>r) B f (r+1) c o m=Wf (o,m)
   grind[kC]
theorem MU(cols:Nat)(hl:Ln n m)(hm:RW m<=4)(hb:dy (10^9) m):∃f0,∀f,f0<=f->∃o m',mU 100000 f cols m=Wf (o,m'):=by have H:Hm n 0 0 (λ_=>0) m:=⟨aa,hl,λi hi=>by omega,λi j h1 h2=>by omega,λi hi=>by omega,λi hi=>by omega,λi j h1 h2=>by omega,λk a b j hj=>by omega⟩;refine aaf (B:=100000) cols H hb ?_;have:RW m-0=0∨RW m-0=1∨RW m-0=2∨RW m-0=3∨RW m-0=4:=aa;rcases this with h|h|h|h|h<;>rw[h]<;>decide
theorem akQ(H:Hm n n (RW m) L m)(H':Hm n n (RW m') L' m')(e:iD m m'):m=m':=by
 have h:=VF (sH H (RW m) 0 0 aa (λ_=>Zb _)) (sH H' (RW m') 0 0 aa (λ_=>Zb _)) (λv=>by
  rw[sG H (Z8 _),sG H' (Z8 _)];exact e v)
 have eo:RW m=RW m':=by
  have:=RT RW h
  rwa [Be,Be]at this
 refine Wl eo λi h1 h2=>?_
 rw[<-eo]at h;have e1:m[i]=nth [] m i:=by rw[nth,Z6,List.getElem?_eq_getElem h1];rfl
 have e2:m'[i]=nth [] m' i:=by rw[nth,Z6,List.getElem?_eq_getElem h2];rfl
 rw[e1,e2];refine ab7 ?_ (UV h i aa aa);rw[H.ln i h1,H'.ln i h2]
theorem ah2(d:α)(l:List α)(h:i<o):nth d (l.take o) i=nth d l i:=by grind[nth]
theorem DO(H:Hm n n o L m):RW (m.take o)=o∧Hm n n o L (m.take o)∧iD m (m.take o):=by
 have hl:RW (m.take o)=o:=by rw[Zq];have:=H.le;omega
 have e:∀i,i<o->nth [] (m.take o) i=nth [] m i:=λi hi=>ah2 [] m hi
 have H2:Hm n n o L (m.take o):=
  ⟨aa,λi hi=>by rw[e i aa];exact H.ln i ae,H.lt,H.inc,λi hi=>by simp[eZ,e i hi];exact H.pos i hi,λi hi j hj=>by grind[Hm.low],
   λi j h1 h2=>by simp[eZ,e i aa,e j h2];exact H.red i j h1 h2,λk a b=>by omega⟩
 refine⟨hl,H2,λv=>?_⟩;have k1:=sG H (Z8 _) v;have k2:=sG H2 (Z8 _) v
 have k3:∀r i,i+r<=o->jv L (m.take o) r i=jv L m r i:=by
  intro r
  induction r with
  |zero=>intro i _;rfl
  |succ r ih=>intro i hi;simp[jv,e i aa,ih (i+1) aa]
 grind
theorem Lo(l:aw)(k j:Nat):nth 0 (l.drop k) j=nth 0 l (k+j):=by simp[nth]
theorem Ot(k:Nat)(r:aw):pA k r=Th↔(∃j,nth 0 r j≠0)∧∀j,j<k->nth 0 r j=0:=by
 unfold pA;cases h:r.findIdx? λz=>decide (z≠0)with
 | none=>
  simp only[Zg,false_iff];rintro⟨⟨j,hj⟩,_⟩;rw[List.findIdx?_eq_none_iff]at h;by_cases hl:j<RW r
  .grind[X2,nth.eq_1]
  .rw[nth,Z6,List.getElem?_eq_none aa]at hj;trivial
 | some i=>
  rw[List.findIdx?_eq_some_iff_getElem]at h;have⟨hi,h1,h2⟩:=h;simp only[dT]at h1 h2 ⊢;have g1:nth 0 r i=r[i]:=by rw[nth,Z6,List.getElem?_eq_getElem hi];rfl
  constructor
  .intro hk;refine⟨⟨i,aa⟩,λj hj=>?_⟩;have hjl:j<RW r:=aa
   grind[nth.eq_1]
  .rintro⟨_,h3⟩;exact Decidable.byContradiction λhn=>h1 (by rw[<-g1];exact h3 i aa)
theorem dG.add{S:Ve->Prop}(hu:dG n S u)(hv:dG n S v):dG n S λi=>u i+v i:=
 ⟨λw hw=>by rw[BE,hu.1 w hw,hv.1 w hw];rfl,λj hj=>by show u j+v j=0;rw[hu.2 j hj,hv.2 j hj];rfl⟩
theorem dG.mul{S:Ve->Prop}(k:Int)(hu:dG n S u):dG n S λi=>k*u i:=
 ⟨λw hw=>by rw[yP,hu.1 w hw,Int.mul_zero],λj hj=>by show k*u j=0;rw[hu.2 j hj,Int.mul_zero]⟩
theorem dG.zero(n:Nat)(S:Ve->Prop):dG n S λ_=>0:=⟨λw hw=>wK w n,λ_ _=>rfl⟩
theorem dG.spn{S:Ve->Prop}:∀{l:List Ve},(∀g∈l,dG n S g)->∀{v},bV l v->dG n S v:=λ{l} hl {v} hv=>by
 obtain⟨ks,rfl⟩:=hv
 induction l generalizing ks with
 |nil=>cases ks<;>exact dG.zero n S
 | cons g l ih=>
  cases ks with
  |nil=>exact dG.zero n S
  |cons k ks=>exact((hl g ac).mul k).add (ih (λx hx=>hl x ae) ks)
theorem Qw(k:Nat):∀{l:List Ve}{v:Ve},bV l v->bV (l.map λg j=>g (k+j)) λj=>v (k+j):=λ{l v} hv=>by
 obtain⟨ks,rfl⟩:=hv;refine⟨ks,?_⟩
 induction l generalizing ks with
 |nil=>cases ks<;>rfl
 | cons g l ih=>
  cases ks with
  |nil=>rfl
  | cons k' ks=>
   grind[gv]
def lW(k:Nat)(m:Mz):Mz:=(m.filter (pA k)).map (List.drop k)
theorem aaK(h:Ln (k+n) m):Ln n (lW k m):=by
 have:∀r∈lW k m,RW r=n:=λr hr=>by
  obtain⟨x,hx,rfl⟩:=Zw.1 hr;obtain⟨i,hi,rfl⟩:=Zj.1 (Xw.1 hx).1;have:=h i hi
  grind[nth.eq_1]
 intro i hi
 grind[nth.eq_1]
theorem Jj(n:Nat)(m:Mz):Ln (RW m+n) (iE n m):=λi hi=>by
 grind[zq,O3]
theorem apk{w:Mz}(H:Hm (RW m+n) (RW m+n) o L w)(e:iD (iE n m) w)(v:Ve):eQ (lW (RW m) (w.take o)) v↔dG n (eQ m) v:=by
 have⟨tl,H2,e2⟩:=DO H;have sp:∀u,eQ (w.take o) u↔jZ n m u:=λu=>(((e.trans e2) u).symm).trans (O2 u)
 constructor
 .refine λh=>dG.spn (λg hg=>?_) h
  obtain⟨r,hr,rfl⟩:=Zw.1 hg;obtain⟨x,hx,rfl⟩:=Zw.1 hr;have⟨hx,hb⟩:=Xw.1 hx;have hb:=((Ot _ _).1 hb).2;have hw:=(sp (ve x)).1 (bV.mem (Zw.2 ⟨x,hx,rfl⟩));have ev:ve (x.drop (RW m))=λc=>ve x (RW m+c):=funext λj=>Lo x (RW m) j
  rw[ev];refine⟨λu hu=>?_,λj hj=>hw.2 _ aa⟩;refine D7 (λg hg=>?_) hu;obtain⟨r,hr,rfl⟩:=Zw.1 hg;obtain⟨i,hi,rfl⟩:=Zj.1 hr;have e1:m[i]=nth [] m i:=by rw[nth,Z6,List.getElem?_eq_getElem hi];rfl
  rw[e1,<-hw.1 i hi];exact hb i hi
 .intro h
  let u:Ve:=λj=>if j<RW m then 0 else v (j-RW m)
  have hsh:(λj=>u (RW m+j))=v:=funext λj=>by
   grind
  have hw:jZ n m u:=by
   refine⟨λi hi=>?_,λj hj=>?_⟩
   .rw[hsh,h.1 _ (j9 hi)]
    grind
   .show(if j<RW m then 0 else v (j-RW m))=0
    rw[iN aa];exact h.2 _ aa
  have h1:=(sp u).2 hw;rw[<-sG H2 (Z8 _)]at h1;have h2:=MI (sH H2 o 0 0 aa (λ_=>Zb _)) (RW m) h1 (λj hj=>ip hj);have h3:=Qw (RW m) h2;rw[hsh]at h3;refine bV.le (λg hg=>?_) h3;obtain⟨g',hg',rfl⟩:=Zw.1 hg;obtain⟨x,hx,rfl⟩:=Zw.1 hg';have⟨hx,hk⟩:=Xw.1 hx;obtain⟨i,_,hi,rfl⟩:=yo hx
  have hk:RW m<=L i:=by simpa using hk
  have DE:i<RW (w.take o):=aa;refine bV.mem (Zw.2 ⟨(nth [] (w.take o) i).drop (RW m),?_,funext λj=>Lo _ _ _⟩);refine Zw.2 ⟨_,Xw.2 ⟨?_,(Ot _ _).2 ⟨⟨L i,?_⟩,λj hj=>H2.low i aa j aa⟩⟩,rfl⟩
  .grind[nth.eq_1]
  .have:=H2.pos i aa
   grind
theorem akR(n:Nat):Hm n n 0 (λ_=>0) []:=
 have z:∀{i:Nat}{P:Prop},i<0->P:=λh=>absurd h (Nat.not_lt_zero _)
 ⟨Z8 _,λi hi=>z hi,λi hi=>z hi,λi j _ hj=>z hj,λi hi=>z hi,λi hi=>z hi,λi j _ hj=>z hj,λk _ hk=>z hk⟩
theorem WJ{B f:Nat}{w:Mz}(hl:Ln n m)(h:mU B f n m=Wf (o,w)):(∃L,Hm n n (RW (w.take o)) L (w.take o))∧iD m (w.take o):=by
 have⟨⟨L,H⟩,e,_⟩:=HP hl h;have⟨tl,H2,e2⟩:=DO H
 grind[iD.trans]
theorem Hy{B f:Nat}{z:Mz}(h:kW B f n m=Wf z):(∃L,Hm n n (RW z) L z)∧∀v,eQ z v↔dG n (eQ m) v:=by
 unfold kW at h;split at h
 .rename_i o w hw;have⟨⟨L,H⟩,e,_⟩:=HP (Jj n m) hw;have bs:=apk H e;have ln:=aaK (DO H).2.1.ln
  have hb:Er B f (RW m) n (w.take o)=if lW (RW m) (w.take o)=[]then Wf []else match mU B f n (lW (RW m) (w.take o))with
   |some (o,w)=>Wf (w.take o)
   |none=>Vc:=rfl
  rw[hb]at h;split at h
  .rename_i h0;cases h;rw[h0]at bs;exact⟨⟨λ_=>0,akR n⟩,bs⟩
  .split at h
   .rename_i o2 w2 hf;cases h;have⟨H3,e3⟩:=WJ ln hf;exact⟨H3,λv=>((e3 v).symm).trans (bs v)⟩
   .cases h
 .cases h
end Go.Vm
