/- Lemmas. -/
import Derived.Test.YtbjigngcncfhmaaGreatDoorQLaJ
set_option linter.unusedVariables false
set_option linter.unusedSimpArgs false
namespace Go.Vm
open Go Go.Am Go.Big
variable{z e1 e2:Int}{r x:LiQ}{m m':Mz}{i n o o' j E E' M:Nat}{s:List Q}{f:Tg->List Q}{t:Tg}{α:Type}{L L':Nat->Nat}
theorem abz{s s' e by_ n k L:Nat}{cells cs:LdQ}{h:Hp}{y:V}{q:kkQ}{u:PU q}(hk:0<k)(hn:0<n)(hs':h[s']?=some (e,.data n cells false false))(hc:cells.length=L*n)
  (hcs:cs.length=k*n) (hy:cellsOf h y=some (k,cs)) (hyn:∀t,y≠.d (.str t)) (hb:(L+k)*by_<=140737488355328)
  (hq:q (.ref s' e 0 (L+k) (L+k) (cells++cs).length) (h.set s' (e,.data n (cells++cs) false false))):rh (apV false s n by_ (.ref s' e 0 L L cells.length) y h) q u:=by
 have e1:apV false s n by_ (.ref s' e 0 L L cells.length) y h q=apC false s n by_ (.ref s' e 0 L L cells.length) k cs h q:=by
  unfold apV;split
  .trivial
  .grind
 show apV false s n by_ (.ref s' e 0 L L cells.length) y h q
 rw[e1];unfold apC;rw[if_neg aa];have g:ax h s' e=.data n cells false false:=by simp[ax,hs']
 have hpos:0<cs.length:=by rw[hcs];exact X0 hk hn
 simp only[g,true_and,Zk];rw[if_pos ⟨Z8 _,aa,hcs⟩,if_neg aa,if_pos hb];simp only[Zh,if_false,Bool.or_self];rw[if_pos ⟨aa,aa⟩];simp only[Yu,bK];rw[Z3 aa];rw[List.length_append,hc]at hq;exact hq
theorem NS{k:LwQ->Hp->Prop}{T:(LwQ->Hp->Prop)->Prop}{u:PU k}{w:PU T}(P:LwQ->Hp->Prop)(hP:∀l h,P l h->k l h)(hT:∀q:LwQ->Hp->Prop,(∀l h,P l h->q l h)->T q):jo k T u w:=hT k hP
variable{p:LiQ}{c w:Mz}
theorem UB{a:Q}(h:okQ a):okQ (sG a):=⟨h.1,by simp only[sG,Xz];exact h.2⟩
theorem ZS{a:Q}{K:Nat}(h:qL K a):qL K (sG a):=⟨by simp only[sG,Xz];exact h.1,h.2⟩
theorem R5{a:Q}(la:qL 100000 a):CP Y F.oe [.agg (qT a)] (.agg (qT (sG a))):=by refine FB ?_;have n1:=zH (z:=a.1) (by have:=la.1;omega);simp only[oe,qT,sG];simp;refine cd n1 ?_;simp;simp[jm]
theorem R4{a b:Q}(ha:okQ a)(hb:okQ b)(la:qL 50000 a)(lb:qL 50000 b):CP Y F.oc [.agg (qT a),.agg (qT b)] (.agg (qT (lj a (sG b)))):=by
 refine Fz ?_;have n1:=R5 (a:=b) (lb.mono aa);have n2:=FI ha (UB hb) (la.mono aa) ((ZS lb).mono aa);obtain⟨x,y,hxy⟩:∃x y,qT (lj a (sG b))=[S x,S y]:=⟨_,_,rfl⟩;obtain⟨x2,y2,hxy2⟩:∃x y,qT (sG b)=[S x,S y]:=⟨_,_,rfl⟩;rw[hxy,hxy2]at n2;rw[hxy2]at n1;rw[hxy];simp only[qT]at n1 n2 ⊢;simp only[oc];simp
 refine cd n1 ?_ (by rfl);simp;refine cd n2 ?_ (by rfl);simp;simp[jm]
def prC(s:List Q):LdQ:=(s.map tx).flatMap aL
theorem zy(s:List Q):(prC s).length=s.length*2:=by rw[prC,fP aL aT,List.length_map]
theorem ZX(s:List Q)(k:Q):prC (s++[k])=prC s++aL (tx k):=by simp[prC]
theorem EP(h : -1000000000<=z∧z<=1000000000):okQ (z,1)∧qL 30 (z,1):=adh z aa aa
theorem aaT(h : -1000000000<=z∧z<=1000000000):CP Y F.ja [I z,I 1] (.tup [.agg (qT (z,1)),I 0]):=by
 have:=FH (n:=z) (d:=1) af aa aa af af
 grind[LI]
def nuA:Acc:=⟨1,0,2,.none⟩
theorem aao(a:LiQ)(z:Int):ofQ (a++[z])=ofQ a++[(z,1)]:=by simp[ofQ]
theorem sR(a:LiQ):(ofQ a).length=a.length:=by simp[ofQ]
theorem Pr{r:LiQ}(hr:bd9 r)(hn:r.length<1000)(x0 y0:Bk)(K:KL):∀(q a:LiQ),r=a++q->K (.exit 0) [nuA.v r.length (prC (ofQ r))] [nnQ,nuA.b r.length (prC (ofQ r))] ->
  lp (mQ (CX Y) (lst di r) (I r.length)) [0] [(0,x0),(0,y0)] [nuA.v a.length (prC (ofQ a)),I a.length] [nnQ,nuA.b a.length (prC (ofQ a))] K
 | [],a,e,hK=>by
  simp only[Zm]at e;subst e;refine aj ?_;have hlt:¬((r.length:Int)<(r.length:Int)):=aa;simp only[mQ];simp(disch:=try exact ae)[hlt];exact hK
 | z::q,a,e,hK=>by
  refine aj ?_;have hlt:((a.length:Int)<(r.length:Int)):=by rw[e];simp;omega
  have hal:a.length<r.length:=aa;have hz:=hr z (by rw[e];simp);have i1:∀h:Hp,ixV h 1 (lst di r) (I a.length)=some (.dptr (r.map di) a.length):=λh=>by rw[e];exact uU di a z q _ _
  have i2:∀h:Hp,ld1 h (.dptr (r.map di) a.length)=some (I z):=λh=>by
   rw[pA di r _ hal];simp only[e,Zg (Z8 _),Y7,Y6];rfl
  have lq:∀H,du 1 [D.str [],D.str []] [(0,.agg (qT (z,1)))] H=some (aL (tx (z,1)),H):=λH=>LV _ H
  have ih:=Pr hr hn x0 y0 K q (a++[z]) (by rw[e];simp) hK;have ee:prC (ofQ (a++[z]))=prC (ofQ a)++aL (tx (z,1)):=by rw[aao,ZX]
  rw[List.length_append,List.length_singleton,ee]at ih;have e4:((a.length+1:Nat):Int)=(a.length:Int)+1:=aa;rw[e4]at ih;simp only[qT]at lq;simp only[mQ];simp(disch:=try exact ae)[hlt,i1,i2];refine cd (aaT hz) ?_;simp only[qT];simp(disch:=try exact ae)[lq]
  refine j6 nuA (by_:=32) (k:=1) (cs:=aL (tx (z,1))) aa rfl (by rw[zy,sR];rfl) rfl rfl (by intro t ht;cases ht) aa af ?_;simp(disch:=try exact ae);rw[<-List.length_append];exact⟨rfl,ih⟩
theorem ET(hr:bd9 r)(hn:r.length<1000):CP Y F.jg [lst di r] (szV (ofQ r)):=by
 refine AQ ?_;have l1:aX (lst di r)=some (I r.length):=rfl;simp only[jg];simp(disch:=try exact ae)[l1];refine lo (Pr hr hn _ _ _ r [] rfl ?_);simp(disch:=try exact ae);have ll:((ofQ r).map tx).length=r.length:=by simp[ofQ]
 have:=abG nuA (L:=r.length) (cells:=prC (ofQ r)) (h:=[nnQ,nuA.b r.length (prC (ofQ r))]) rfl (by rw[zy,sR];rfl);simpa[szV,gk,prC,ll]using this
theorem K5(a b:Nat):((List.replicate a zT++List.replicate b eC).flatMap aL).length=(a+b)*2:=by rw[fP aL aT];simp
theorem aaO(t:Tx){m:Nat}(h:m<=i):((List.replicate i t).flatMap aL).take (m*2)=(List.replicate m t).flatMap aL:=by obtain⟨d,rfl⟩:=Nat.exists_eq_add_of_le h;rw[<-List.replicate_append_replicate,Yl,List.take_append_of_le_length (by rw[fP aL aT];simp),Z3 (by rw[fP aL aT];simp)]
theorem aaP(t:Tx){m:Nat}(h:m<=i):((List.replicate i t).flatMap aL).drop (m*2)=(List.replicate (i-m) t).flatMap aL:=by obtain⟨d,rfl⟩:=Nat.exists_eq_add_of_le h;rw[<-List.replicate_append_replicate,Yl,List.drop_append_of_le_length (by rw[fP aL aT];simp),List.drop_of_length_le (by rw[fP aL aT];simp),List.nil_append,Nat.add_sub_cancel_left]
theorem BH(t:Tx)(i:Nat):((List.replicate i t).flatMap aL).length=i*2:=by rw[fP aL aT,Zd]
@[simp ↓] theorem ahB (h:Hp)(n:Nat)(x y:V)(k:kkQ):cpD h n x y k=rh (cpD h n x y) k .mk:=id rfl
theorem XC{h:Hp}{n i r j m cap:Nat}(hi:i+r=n)(hm:min j r=m)(m0:0<m){y:V}(hy:cellsOf (hz h (List.replicate i zT++List.replicate r eC)) y=some (j,(List.replicate j zT).flatMap aL)){k:kkQ}{u:PU k}
  (hk:k (I m) (hz h (List.replicate (i+m) zT++List.replicate (r-m) eC))):rh (cpD (hz h (List.replicate i zT++List.replicate r eC)) 2 (.ref h.length 1 (i*2) r cap (n*2)) y) k u:=by
 show cpD _ 2 _ y k
 have hl:((List.replicate i zT++List.replicate r eC).flatMap aL).length=n*2:=by rw[K5,hi]
 have mj:m<=j:=aa;have mr:m<=r:=aa;unfold cpD;simp only[dM (Fq h _),hy,hm];rw[if_pos ⟨⟨m0,by trivial,aa,by trivial⟩,hl.symm,BH _ _,by rw[hl];omega⟩];have a1:=BH zT i
 have p1:List.take (i*2) ((List.replicate i zT++List.replicate r eC).flatMap aL)=(List.replicate i zT).flatMap aL:=by
  rw[Yl,List.take_append_of_le_length aa,Z3 aa]
 have p2:List.drop (i*2) ((List.replicate i zT++List.replicate r eC).flatMap aL)=(List.replicate r eC).flatMap aL:=by
  rw[Yl,List.drop_append_of_le_length aa,List.drop_of_length_le aa,List.nil_append]
 have e:(List.take (i*2) ((List.replicate i zT++List.replicate r eC).flatMap aL)++List.take (m*2) ((List.replicate j zT).flatMap aL)++List.drop (i*2+m*2) ((List.replicate i zT++List.replicate r eC).flatMap aL))=(List.replicate (i+m) zT++List.replicate (r-m) eC).flatMap aL:=by
  rw[p1,aaO zT mj,<-List.drop_drop,p2,aaP eC mr,Yl,<-List.replicate_append_replicate,Yl]
 rw[e];have:=NX h (List.replicate i zT++List.replicate r eC) (List.replicate (i+m) zT++List.replicate (r-m) eC);rw[bK,this];exact hk
theorem Ci{h:Hp}{n:Nat}(hn:n<10)(K:KL)(h0:Hp):∀(f i r:Nat),r<=f->0<i->i+r=n->K (.exit 0) [] (hz h (List.replicate n zT)) ->
  lp (bA (CX Y) h.length (.ref h.length 1 0 n n (n*2))) [] h0 [I i] (hz h (List.replicate i zT++List.replicate r eC)) K
 | f,i,0,hf,hi0,hi,hK=>by
  have:i=n:=aa;subst this;refine aj ?_;have l1:aX (.ref h.length 1 0 i i (i*2))=some (I i):=rfl;have hlt:¬((i:Int)<(i:Int)):=aa;simp only[bA];simp(disch:=try exact ae)[l1,hlt];simpa using hK
 |0,i,r+1,hf,hi0,hi,hK=>by omega
 | f+1,i,r+1,hf,hi0,hi,hK=>by
  refine aj ?_;have l1:aX (.ref h.length 1 0 n n (n*2))=some (I n):=rfl;have hlt:((i:Int)<(n:Int)):=aa;simp only[bA];have hl:((List.replicate i zT++List.replicate (r+1) eC).flatMap aL).length=n*2:=by rw[K5,hi]
  have hg:=dM (Fq h (List.replicate i zT++List.replicate (r+1) eC))
  have s1:slV (hz h (List.replicate i zT++List.replicate (r+1) eC)) 2 (V.ref h.length 1 0 n n (n*2)) (some (I i)) none=some (.ref h.length 1 (i*2) (r+1) (r+1) (n*2)):=by
   have b1:boV 0 n (some (I (i:Int)))=some i:=by
    show(if(0:Int)<=i∧(i:Int)<=(n:Int)then some (i:Int).toNat else none)=_
    rw[if_pos ⟨aa,aa⟩,Int.toNat_natCast]
   simp only[slV,hg,boV,b1]
   show(match boV 0 n (some (I (i:Int)))with|some i=>_|none=>none)=_
   rw[b1];simp only;rw[if_pos ⟨hl.symm,Z8 _,by trivial⟩,Zk,show n-i=r+1 by omega]
  have s2:slV (hz h (List.replicate i zT++List.replicate (r+1) eC)) 2 (V.ref h.length 1 0 n n (n*2)) none (some (I i))=some (.ref h.length 1 0 i n (n*2)):=by
   have b1:boV n n (some (I (i:Int)))=some i:=by
    show(if(0:Int)<=i∧(i:Int)<=(n:Int)then some (i:Int).toNat else none)=_
    rw[if_pos ⟨aa,aa⟩,Int.toNat_natCast]
   simp only[slV,hg,b1]
   show(match boV 0 i none with|some i'=>_|none=>none)=_
   rw[show boV 0 i none=some 0 from rfl];simp only;rw[if_pos ⟨hl.symm,Z8 _,by trivial⟩];simp
  have hc:cellsOf (hz h (List.replicate i zT++List.replicate (r+1) eC)) (.ref h.length 1 0 i n (n*2))=some (i,(List.replicate i zT).flatMap aL):=by
   simp only[cellsOf,hg];rw[if_pos ⟨hl.symm,by rw[hl];omega⟩,Yu,Yl,List.take_append_of_le_length (by rw[BH];exact Z8 _),Z3 (by rw[BH];exact Z8 _)]
  simp(disch:=try exact ae)[l1,hlt,s1,s2];refine XC (m:=min i (r+1)) hi rfl aa hc ?_;obtain⟨m,hm⟩:=nmQ (min i (r+1));rw[<-hm];have ih:=Ci hn K h0 f (i+m) (r+1-m) aa aa aa hK;simp(disch:=try exact ae);rw[Int.natCast_add]at ih;rw[eu];exact lo ih
theorem Q8{h:Hp}(hu:(h.all λx=>aF h.length x.2)=true)(h1:0<n)(hn:n<10):CI Y F.aS [.d (.sl 1 (aL zT)),I n] h (.new 2 ((List.replicate n zT).flatMap aL) true n n) h:=by
 refine nO ?_;have mu:=Rv (n:=n) hn;have nn:¬((n:Int)<0):=aa;simp only[aS];have w1:IntKind.u64.wrap (n:Int)=n:=wrap_u64 aa;have v1:aX (.d (.sl 1 (aL zT)))=some (I 1):=rfl;have v2:cvI IntKind.u64 (I 1)=some (.d (.int .u64 1)):=rfl;simp(disch:=try exact ae)[nn];refine bM ?_;rw[w1]
 simp(disch:=try exact ae)[v1,v2];refine cd mu ?_ (by rfl);simp(disch:=try exact ae);refine bM ?_;simp(disch:=try exact ae);refine Vb (e:=0) (b:=.none) ac aa ?_
 have e0:(h++[(0,Bk.none)]).set h.length (0+1,.data 2 ((List.replicate n eC).flatMap aL) true false)=hz h (List.replicate 0 zT++List.replicate n eC):=by simp[hz]
 rw[e0]
 have c1:=XC (h:=h) (n:=n) (i:=0) (r:=n) (j:=1) (m:=1) (cap:=n) (y:=.d (.sl 1 (aL zT))) (k:=λv18 h_2=>
    lp (bA (CX Y) h.length (.ref h.length 1 0 n n (n*2))) [] h_2 [v18] h_2
     (exK [(Exit.exit 0,λl19 h_3=>m7 h.length (V.new 2 (List.flatMap aL (List.replicate n zT)) true n n) h (.ref h.length 1 0 n n (n*2)) h_3)])) (u:=.mk) aa aa aa (by simp[cellsOf]) ?_
 .exact c1
 refine Ci hn _ _ n 1 (n-1) aa aa aa ?_;have hfl:=BH zT n;refine⟨by simp[hz],?_,.inr (.inr (.inl ⟨h.length,1,n,n,2,(List.replicate n zT).flatMap aL,true,by rw[hfl],Z8 _,?_,rfl⟩))⟩
 .simp only[hz,Y2,hu,Yp]
 .simp[hz,ax]
theorem Qn{h:Hp}{s fs:List Q}{k:Q}{i:Nat}(hi:i<fs.length)(hki:nth ([],[]) (fs.map tx) i=tx k)(hf:fs.length<1000000)(hN:s.length<1000000){Ko Ks Kk:Nat}(hk:okQ k)(lk:qL Kk k)
  (b1:Ko<=100000) (b2:Ks+Kk<=100000) (h0:Hp) (kk:KL):∀(q a oq a':List Q),a++q=s->a'.length=a.length->oq.length=q.length->okK Ko oq->okK Ks q->kk (.exit 2) [] (hz h ((a'++yU k oq q).map tx)) ->
  lp (mR (CX Y) h.length (szV fs) (.ref h.length 1 0 s.length s.length (s.length*2)) (I i) (szV s) (I s.length)) [] h0 [I a.length] (hz h ((a'++oq).map tx)) kk
 | [],a,oq,a',ha,h1,h2,ho,hs,hkk=>by
  simp only[Zm]at ha;simp only[List.length_nil]at h2;have h2':oq=[]:=Zo h2;subst ha h2';have hlt:¬((a.length:Int)<(a.length:Int)):=aa;refine aj ?_;simp only[mR];simp(disch:=try exact ae)[hlt];simpa[yU]using hkk
 |x::q,a,[],a',ha,h1,h2,ho,hs,hkk=>by simp at h2
 | x::q,a,y::oq,a',ha,h1,h2,ho,hs,hkk=>by
  have hal:a.length<s.length:=by subst ha;simp
  obtain⟨o1,o2⟩:=ho y ac;obtain⟨s1,s2⟩:=hs x ac;have hlen:((a'++y::oq).map tx).length=s.length:=by subst ha;simp at h2 ⊢;omega
  have mul:=Mg s1 hk (s2.mono aa) (lk.mono aa);have add:=FI o1 (IW s1 hk) (o2.mono b1) ((Ny s2 lk).mono aa);have g1:(a.length:Int)<(s.length:Int):=aa;have hx:nth ([],[]) (s.map tx) a.length=tx x:=by subst ha;exact lZ ..
  have hy:nth ([],[]) ((a'++y::oq).map tx) a.length=tx y:=by rw[<-h1];exact lZ ..
  have i1:=λh:Hp=>jW aL aT (s.map tx) h (k:=.i64) (i:=(a.length:Int)) aa (by grind)
  have i2:=λh:Hp=>kD aL aT ([],[]) (s.map tx) h (j:=a.length) (by grind)
  have j1:=λh:Hp=>jW aL aT (fs.map tx) h (k:=.i64) (i:=(i:Int)) aa (by grind)
  have j2:=λh:Hp=>kD aL aT ([],[]) (fs.map tx) h (j:=i) (by grind)
  simp only[hx,hki,Int.toNat_natCast]at i1 i2 j1 j2;have hg:=Fq h ((a'++y::oq).map tx);have e1:=ixR hg hlen (c:=a.length) hal .i64;have e2:=ldR hg hlen (c:=a.length) hal;have e3:=stR hg hlen (c:=a.length) hal (tx (lj y (qz x k)))
  have es:((a'++y::oq).map tx).set a.length (tx (lj y (qz x k)))=((a'++[lj y (qz x k)])++oq).map tx:=by
   have:=IS (a'.map tx) (tx y) (tx (lj y (qz x k))) (oq.map tx);rw[List.length_map,h1]at this;simpa using this
  simp only[hy,es,NX]at e2 e3;have ih:=Qn (h:=h) hi hki hf hN hk lk b1 b2 h0 kk q (a++[x]) oq (a'++[lj y (qz x k)]) (by grind) (by grind) (by grind) (λw hw=>ho w (by grind)) (λw hw=>hs w (by grind)) (by simpa[yU]using hkk);have e4:(((a++[x]).length:Nat):Int)=(a.length:Int)+1:=ac;rw[e4]at ih;simp only[qT]at mul add
  obtain⟨w1,w2,hw⟩:∃w1 w2,qT (qz x k)=[S w1,S w2]:=⟨_,_,rfl⟩;have z1:szV s=gk aL (s.map tx):=rfl;have z2:szV fs=gk aL (fs.map tx):=rfl;generalize hz h ((a'++y::oq).map tx)=H0 at *;generalize hz h ((a'++[lj y (qz x k)]++oq).map tx)=H1 at *;refine aj ?_;simp only[mR];simp(disch:=try exact ae)[z1,z2,i1,i2,j1,j2,e1,e2,g1];refine cd mul ?_ (by rfl)
  simp(disch:=try exact ae);refine cd add ?_ (by rfl);have e3':st H0 2 (V.ptr h.length 1 (a.length*2) (s.length*2)) (.agg [S (itoa (lj y (qz x k)).fst),S (ah (lj y (qz x k)).snd)])=some H1:=e3;simp(disch:=try exact ae)[e1,e3'];rw[eu];exact lo ih
theorem ME{h:Hp}{n:Nat}{fs:List Q}(hf:fs.length<1000000)(hN:n<1000000){Ks Kk:Nat}(b2:Ks+Kk<=90000)(h0:Hp)(kk:KL):∀(l a:List (List Q))(q f:List Q)(o:List Q)(Ko:Nat),f++q=fs->f.length=a.length->l.length=q.length->Ko+l.length*(Ks+Kk+1)<=100000 ->
  o.length=n->okK Ko o->(∀s∈l,s.length=n∧okK Ks s)->okK Kk q->kk (.exit 0) [] (hz h ((CF o l q).map tx)) ->
  lp (mS (CX Y) h.length (szV fs) (.ref h.length 1 0 n n (n*2)) (lst szD (a++l)) (I (a++l).length)) [] h0 [I a.length] (hz h (o.map tx)) kk
 | [],a,q,f,o,Ko,hfq,h1,h2,b1,hn,ho,hl,hq,hkk=>by
  have hlt:¬((a.length:Int)<((a++[]).length:Int)):=ac;refine aj ?_;simp only[mS];simp(disch:=try exact ae)[hlt];simpa[CF]using hkk
 |s::l,a,[],f,o,Ko,hfq,h1,h2,b1,hn,ho,hl,hq,hkk=>by simp at h2
 | s::l,a,k::q,f,o,Ko,hfq,h1,h2,b1,hn,ho,hl,hq,hkk=>by
  obtain⟨s1,s2⟩:=hl s ac;obtain⟨k1,k2⟩:=hq k ac;have hLl:(l.length+1)*(Ks+Kk+1)=l.length*(Ks+Kk+1)+(Ks+Kk+1):=X1 ..;rw[List.length_cons,hLl]at b1;have hb:(a++s::l).length<1000000:=by simp at h2 ⊢;subst hfq;simp at hf;omega
  have g1:(a.length:Int)<((a++s::l).length:Int):=by simp;omega
  have i1:=λh:Hp=>nJ szD (a++s::l) h (k:=.i64) (i:=(a.length:Int)) aa g1
  have i2:=λh:Hp=>oz szD [] (a++s::l) h (j:=a.length) ac
  have hnt:nth [] (a++s::l) a.length=s:=ac;simp only[hnt,Int.toNat_natCast]at i1 i2;have hlv:aX (.ref h.length 1 0 n n (n*2))=some (I n):=rfl;have hki:nth ([],[]) (fs.map tx) a.length=tx k:=by rw[<-hfq,<-h1];exact lZ ..
  have hi:a.length<fs.length:=by rw[<-hfq];simp;omega
  simp only[OO]at i2;have ih:=ME (h:=h) hf hN b2 h0 kk l (a++[s]) q (f++[k]) (yU k o s) (Ko+(Ks+Kk)+1) (by grind) (by grind) (by grind) aa (by rw[AI k o s (hn.trans s1.symm),s1]) (DW k1 k2 ho s2) (λt ht=>hl t (by grind)) (λt ht=>hq t (by grind)) (by simpa[CF]using hkk);have e4:(((a++[s]).length:Nat):Int)=(a.length:Int)+1:=ac
  have e5:a++[s]++l=a++s::l:=ac;rw[e4,e5]at ih;generalize a++s::l=L at *;refine aj ?_;simp only[mS];simp(disch:=try exact ae)[i1,i2,g1,hlv];subst s1;refine lo (Qn hi hki hf hN k1 k2 (Ko:=Ko) (Ks:=Ks) aa aa _ _ s [] o [] rfl rfl hn ho s2 ?_);simp(disch:=try exact ae);rw[eu];exact lo ih
theorem XE{h:Hp}(hu:(h.all λx=>aF h.length x.2)=true){p:LiQ}{l:List (List Q)}{fs:List Q}{Ks Kk:Nat}(h0:0<p.length)(hN:p.length<10)(hf:fs.length<1000000)(hlen:l.length=fs.length)(b2:Ks+Kk<=90000)(b1:1+l.length*(Ks+Kk+1)<=100000)
  (hl:∀s∈l,s.length=p.length∧okK Ks s) (hq:okK Kk fs):CI Y F.jh [lst di p,lst szD l,szV fs] h (.new 2 (prC (qM p.length l fs)) true p.length p.length) h:=by
 refine AS ?_
 have hu1:((h++[(0,Bk.none)]).all λx=>aF (h++[(0,Bk.none)]).length x.2)=true:=by
  simp only[Y2,Z7];refine⟨?_,rfl⟩;rw[Z1]at hu ⊢;intro x hx;exact w9 ac (hu x hx)
 have zi:=Q8 hu1 (n:=p.length) h0 hN;have l1:aX (lst di p)=some (I p.length):=rfl;have l2:aX (lst szD l)=some (I l.length):=rfl;simp only[jh]
 have li:∀H:Hp,du 1 [D.str [],D.str []] [(0,V.agg [V.d (D.str [48]),V.d (D.str [49])])] H=some (aL zT,H):=λH=>by
  have q1:itoa 0=[48]:=aR;have q2:ah 1=[49]:=aR;have:=LV (0,1) H;simp only[qT,q1,q2]at this;exact this
 simp(disch:=try exact ae)[l1,l2,li];refine oE (iz (e:=0) (b:=.none) zi ac ?_);have e0:(h++[(0,Bk.none)]).set h.length (0+1,.data 2 ((List.replicate p.length zT).flatMap aL) true false)=hz h ((List.replicate p.length (0,1)).map tx):=by simp[hz,zT]
 rw[e0,BH];have hz':okK 1 (List.replicate p.length ((0,1):Q)):=yX p.length;refine ME (n:=p.length) hf aa b2 _ _ l [] fs [] _ 1 rfl rfl hlen b1 ac hz' hl hq ?_;simp(disch:=try exact ae)
 have hln:(qM p.length l fs).length=p.length:=by
  unfold qM;rw[rR (λs hs=>by rw[(hl s hs).1];simp)];simp
 have hfl:(prC (qM p.length l fs)).length=p.length*2:=by rw[zy,hln]
 refine⟨by simp[hz],?_,.inr (.inr (.inl ⟨h.length,1,p.length,p.length,2,prC (qM p.length l fs),true,by rw[hfl],Z8 _,?_,rfl⟩))⟩
 .simp only[hz,Y2,hu,Yp]
 .simp[hz,ax,prC,qM]
def tuC(p:LiQ)(c w:Mz)(g:List (List Q)):LwQ:=[lst di p,mat c,mat w,lst szD g]
def tuV(p:LiQ)(c w:Mz)(g:List (List Q)):V:=.agg (tuC p c w g)
structure J5(p:LiQ)(c w:Mz)(g:List (List Q)):Prop where
 tp:Da p c w
 gl:g.length=w.length
 gs:∀s∈g,s.length=p.length∧okS s
variable{p:LiQ}{c w:Mz}{g:List (List Q)}
theorem D9(h:J5 p c w g):CP Y F.fk [tuV p c w g] (I 0):=by
 refine rO ?_;have hn:=h.tp.lc.n12;have hwl:=h.tp.lw.ml;have hgl:=h.gl;have a1:=rP h.tp;have a2:=wV (p:=p) (l:=g) aa aa (λs hs=>⟨(h.gs s hs).2,by rw[(h.gs s hs).1];omega⟩);rw[if_pos h.tp.pr,DR λs hs=>(h.gs s hs).1]at a2;have l1:aX (lst szD g)=some (I g.length):=rfl;have l2:aX (mat w)=some (I w.length):=rfl
 have g1:((g.length:Int)=(w.length:Int))=True:=eq_true aa;simp only[fk,tuV,tuC];simp(disch:=try exact ae);refine cd (args:=[tpV p c w]) a1 ?_ (by simp[aH,bH,tpV,mat]);simp(disch:=try exact ae)[l1,l2,g1];refine cd a2 ?_ (by rfl);exact ct rfl
theorem Kv(hp:pcB p=0)(hN:p.length<1000000)(hl:s.length=p.length)(hs:okS s):CP Y F.mn [lst di p,szV s] (.tup [szV s,I 0]):=by refine CB ?_;simp only[mn];simp(disch:=try exact ae);refine cd (Ib hp hN hl hs) ?_ (by rfl);simp(disch:=try exact ae);exact⟨_,rfl⟩
def Ec(p:LiQ)(w:Mz)(g:List (List Q))(x:LiQ):List Q:=qM p.length g (ofQ (kw w x))
structure af1(p:LiQ)(w:Mz)(x:LiQ):Prop where
 l:x.length=p.length
 s:smR x=true
 b:bd9 x
 r:rcB x=0
 t:bd9 (kw w x)
theorem KA{h:Hp}(hu:(h.all λx=>aF h.length x.2)=true)(ht:J5 p c w g)(hp10:p.length<10)(hx:af1 p w x):CI Y F.iB [tuV p c w g,lst di x] h (.tup [.new 2 (prC (Ec p w g x)) true p.length p.length,I 0]) h:=by
 refine zb ?_;have hn:=ht.tp.lc.n12;have hwl:=ht.tp.lw.ml;have hgl:=ht.gl;have a1:=D9 ht;have a2:=LD (p:=p) (r:=x) aa;rw[adm ht.tp.pr hx.l hx.s]at a2;have a3:=SE ht.tp hx.l hx.b hx.r hx.t;have tl:(kw w x).length=w.length:=by simp[kw]
 have a4:=ET hx.t aa
 have hu1:((h++[(1,Bk.vars (tuC p c w g)),(0,Bk.none)]).all λx=>aF (h++[(1,Bk.vars (tuC p c w g)),(0,Bk.none)]).length x.2)=true:=by
  simp only[Y2,Z7];refine⟨?_,rfl⟩;rw[Z1]at hu ⊢;intro x hx;exact w9 ac (hu x hx)
 have ok1:okK 30 (ofQ (kw w x)):=λy hy=>by
  obtain⟨z,hz,rfl⟩:=Zw.1 hy;exact EP (hx.t z hz)
 have a5:=XE (p:=p) (l:=g) (fs:=ofQ (kw w x)) hu1 (Ks:=30) (Kk:=30) ht.tp.lc.n0 hp10 (by rw[sR];omega) (by rw[sR];omega) aa aa (λs hs=>ht.gs s hs) ok1;have e0:(h++[(0,Bk.none),(0,Bk.none)])[h.length]?=some (0,Bk.none):=ac;have es:(h++[(0,Bk.none),(0,Bk.none)]).set h.length (1,.vars (tuC p c w g))=h++[(1,Bk.vars (tuC p c w g)),(0,Bk.none)]:=ac
 have hx1:md (h++[(1,Bk.vars (tuC p c w g)),(0,Bk.none)]) h.length 1=.vars (tuC p c w g):=by simp[md,ax]
 have hs1:(h++[(1,Bk.vars (tuC p c w g)),(0,Bk.none)])[h.length+1]?=some (0,Bk.none):=ac
 have hf:∀y,(h++[(1,Bk.vars (tuC p c w g)),(0,Bk.none)]).set (h.length+1) y=h++[(1,Bk.vars (tuC p c w g)),y]:=λy=>by
  rw[Y4 _ _ aa];simp
 simp only[iB,tuV];simp only[tuC]at *;simp(disch:=try exact ae)[e0,es,hx1];obtain⟨H1,hH⟩:=nmQ (h++[(1,Bk.vars [lst di p,mat c,mat w,lst szD g]),(0,Bk.none)]);rw[<-hH]at a5 hx1 hs1 hf ⊢;refine cd (args:=[tuV p c w g]) a1 ?_ (by simp[aH,bH,tuV,tuC,mat]);simp(disch:=try exact ae)[hx1];refine cd a2 ?_ (by rfl)
 simp(disch:=try exact ae)[hx1];refine cd (args:=[tpV p c w,lst di x]) a3 ?_ (by simp[aH,bH,tpV,mat]);simp(disch:=try exact ae)[hx1];refine cd a4 ?_ (by rfl);simp(disch:=try exact ae)[hx1];refine oE (iz (e:=0) (b:=.none) a5 hs1 ?_);rw[hf]
 have hln:(qM p.length g (ofQ (kw w x))).length=p.length:=by
  unfold qM;rw[rR (λs hs=>by rw[(ht.gs s hs).1];simp)];simp
 have hfl:(prC (Ec p w g x)).length=p.length*2:=by rw[zy,Ec,hln]
 simp(disch:=try exact ae);refine⟨ac,?_,.inr (.inr (.inr (.inr (.inl ⟨h.length+1,1,p.length,p.length,2,prC (Ec p w g x),true,.int .i64 0,by rfl,Nat.le_succ _,?_,rfl⟩))))⟩
 .simp only[Y2,hu,Yp]
 .simp[ax];rfl
def GF(p:LiQ)(w:Mz)(g:List (List Q))(x:LiQ):List Q:=List.zipWith (λa z=>lj a (sG (z,1))) (Ec p w g x) x
def erH(C:LwQ)(x2:Nat×Bk)(s:List Q):Hp:=[(1,.vars C),(1,.data 2 ((s.map tx).flatMap aL) true false),x2]
theorem Wd{C:LwQ}(hC:offB [2] (.vars C)=true){n:Nat}{x:LiQ}(hxb:bd9 x)(hx:x.length=n)(hn:n<1000)(h0:Hp)(hh:∃u v w,h0=[u,v,(0,w)])(K:KL):∀(q a:LiQ)(o e:List Q),a++q=x->e.length=a.length->o.length=q.length->okK 50000 o->K (.exit 0) [] (erH C nnQ (e++List.zipWith (λa z=>lj a (sG (z,1))) o q)) ->
  lp (oI (CX Y) (.ref 1 1 0 n n (n*2)) (szV (ofQ x)) (I n)) [2] h0 [I a.length] (erH C nnQ (e++o)) K
 | [],a,o,e,ha,h1,h2,ho,hK=>by
  simp only[Zm]at ha;simp only[List.length_nil]at h2;have h2':o=[]:=Zo h2;subst ha h2' hx;have hlt:¬((a.length:Int)<(a.length:Int)):=aa;refine aj ?_;simp only[oI];simp(disch:=try exact ae)[hlt];simpa using hK
 |z::q,a,[],e,ha,h1,h2,ho,hK=>by simp at h2
 | z::q,a,y::o,e,ha,h1,h2,ho,hK=>by
  have hal:a.length<n:=by rw[<-hx,<-ha];simp
  obtain⟨o1,o2⟩:=ho y ac;have hlen:((e++y::o).map tx).length=n:=by rw[<-hx,<-ha];simp at h2 ⊢;omega
  have hz:=hxb z (by rw[<-ha];simp);obtain⟨z1,z2⟩:=EP hz;have sub:=R4 o1 z1 o2 (z2.mono aa);have g1:(a.length:Int)<(n:Int):=aa
  have hxn:nth ([],[]) ((ofQ x).map tx) a.length=tx (z,1):=by
   have e1:(ofQ x).map tx=(ofQ a++(z,1)::ofQ q).map tx:=by rw[<-ha];simp[ofQ]
   have:=lZ ([],[]) tx (ofQ a) (z,1) (ofQ q);rw[sR]at this;rw[e1,this]
  have hy:nth ([],[]) ((e++y::o).map tx) a.length=tx y:=by rw[<-h1];exact lZ ..
  have i1:=λh:Hp=>jW aL aT ((ofQ x).map tx) h (k:=.i64) (i:=(a.length:Int)) aa (by rw[List.length_map,sR];omega)
  have i2:=λh:Hp=>kD aL aT ([],[]) ((ofQ x).map tx) h (j:=a.length) (by rw[List.length_map,sR];omega)
  simp only[hxn,Int.toNat_natCast]at i1 i2;have hg:∀x2,(erH C x2 (e++y::o))[1]?=some (1,.data 2 (((e++y::o).map tx).flatMap aL) true false):=λx2=>rfl
  have e1:=λx2=>ixR (hg x2) hlen (c:=a.length) hal .i64
  have e2:=λx2=>ldR (hg x2) hlen (c:=a.length) hal
  have e3:=λx2=>stR (hg x2) hlen (c:=a.length) hal (tx (lj y (sG (z,1))))
  have es:((e++y::o).map tx).set a.length (tx (lj y (sG (z,1))))=((e++[lj y (sG (z,1))])++o).map tx:=by
   have:=IS (e.map tx) (tx y) (tx (lj y (sG (z,1)))) (o.map tx);rw[List.length_map,h1]at this;simpa using this
  simp only[hy,es]at e2 e3;have ih:=Wd hC hxb hx hn h0 hh K q (a++[z]) o (e++[lj y (sG (z,1))]) (by simp[ha]) (by simp[h1]) (by simpa using h2) (λw hw=>ho w (by simp[hw])) (by simpa using hK);have e4:(((a++[z]).length:Nat):Int)=(a.length:Int)+1:=ac;rw[e4]at ih;have z2:szV (ofQ x)=gk aL ((ofQ x).map tx):=rfl;simp only[qT]at sub
  have e3':∀x2,st (erH C x2 (e++y::o)) 2 (.ptr 1 1 (a.length*2) (n*2)) (.agg [S (itoa (lj y (sG (z,1))).fst),S (ah (lj y (sG (z,1))).snd)])=some (erH C x2 (e++[lj y (sG (z,1))]++o)):=e3;have hs2:(erH C nnQ (e++y::o))[2]?=some nnQ:=rfl;have hs3:∀b b',(erH C b (e++y::o)).set 2 b'=erH C b' (e++y::o):=λb b'=>rfl
  have hx2:∀b,md (erH C (1,b) (e++y::o)) 2 1=b:=λb=>rfl
  have i2':∀h:Hp,ldA h 2 (.dptr (((ofQ x).map tx).flatMap aL) (a.length*2))=some (.agg [S (itoa z),S (ah 1)]):=i2;have e2':∀x2,ldA (erH C x2 (e++y::o)) 2 (.ptr 1 1 (a.length*2) (n*2))=some (.agg [S (itoa y.1),S (ah y.2)]):=e2;refine aj ?_;simp only[oI];simp(disch:=try exact ae)[z2,i1,i2',g1,hs2,hs3,hx2,e1,e2'];refine cd sub ?_ (by rfl)
  simp(disch:=try exact ae)[e1,e3'];have es2:e++lj y (sG (z,1))::o=e++[lj y (sG (z,1))]++o:=ac
  have rs:∀b s,aP [2] 0 h0 (erH C (1,b) s)=erH C nnQ s:=λb s=>by
   obtain⟨⟨u1,u2⟩,⟨v1,v2⟩,w,rfl⟩:=hh;rfl
  rw[rs,es2];refine⟨?_,lo ih⟩;simp only[clean,erH,p6,hC];rfl
theorem SP(ht:J5 p c w g)(hp10:p.length<10)(hx:af1 p w x)(hr:okS (GF p w g x)):CP Y F.lF [tuV p c w g,lst di x] (.tup [szV (GF p w g x),I 0]):=by
 refine D8 ?_;have hn:=ht.tp.lc.n12;have hxl:=hx.l;have hwl:=ht.tp.lw.ml;have hgl:=ht.gl;have a1:=KA (h:=[(1,.vars (tuC p c w g)),nnQ,nnQ]) rfl ht hp10 hx;have tl:(kw w x).length=w.length:=by simp[kw]
 have ok1:okK 30 (ofQ (kw w x)):=λy hy=>by
  obtain⟨z,hz,rfl⟩:=Zw.1 hy;exact EP (hx.t z hz)
 have hln:(Ec p w g x).length=p.length:=by
  unfold Ec qM;rw[rR (λs hs=>by rw[(ht.gs s hs).1];simp)];simp
 have ok2:okK 50000 (Ec p w g x):=λy hy=>by
  have:=ID (yX p.length) (λs hs=>(ht.gs s hs).2) ok1 y hy;exact⟨this.1,this.2.mono aa⟩
 have a2:=ET hx.b aa;have a3:=Kv ht.tp.pr aa (by rw[GF,List.length_zipWith,hln,hxl];simp) hr;have l1:aX (szV (ofQ x))=some (I p.length):=by rw[xl,sR,hxl]
 simp only[lF,tuV];simp only[tuC]at *;simp(disch:=try exact ae);refine oE (XN (e:=0) (b:=.none) a1 rfl ?_);have hfl:(prC (Ec p w g x)).length=p.length*2:=by rw[zy,hln]
 rw[hfl];simp(disch:=try exact ae);refine cd a2 ?_ (by rfl);simp(disch:=try exact ae)[l1];refine lo (Wd (C:=[lst di p,mat c,mat w,lst szD g]) rfl hx.b hxl aa _ ⟨_,_,_,rfl⟩ _ x [] (Ec p w g x) [] rfl rfl (by rw[hln,hxl]) ok2 ?_);have ez:List.zipWith (λa z=>lj a (sG (z,1))) (Ec p w g x) x=GF p w g x:=rfl;rw[ez,List.nil_append]
 have sn:=abV (h:=erH [lst di p,mat c,mat w,lst szD g] nnQ (GF p w g x)) (s:=1) (e:=1) (n:=p.length) (l:=(GF p w g x).map tx) rfl (by rw[List.length_map,GF,List.length_zipWith,hln,hxl];simp);have l4:ld1 (erH [lst di p,mat c,mat w,lst szD g] nnQ (GF p w g x)) (.ptr 0 1 0 4)=some (lst di p):=rfl
 have hx0:md (erH [lst di p,mat c,mat w,lst szD g] nnQ (GF p w g x)) 0 1=.vars [lst di p,mat c,mat w,lst szD g]:=rfl;simp(disch:=try exact ae)[hx0];have e5:∀h:Hp,bH h (lst di p)=some (lst di p,h):=λh=>rfl
 refine cdz (by simp only[aH,e5,sn];rfl) a3 ?_;simp(disch:=try exact ae);exact⟨_,rfl⟩
def MX(p:LiQ)(c w:Mz)(g:List (List Q))(f:Tg->List Q)(t:Tg):Prop:=∃a b:List Q,CP Y F.lF [tuV p c w g,lst di t.iv] (.tup [szV a,I 0])∧CP Y F.rX [lst di p,szV a] (.tup [szV b,I 0])∧CP Y F.oT [lst di p,szV b,.agg [S t.num,S t.den]] (.tup [szV (f t),I 0])
def daA:Acc:=⟨2,0,1,.none⟩
def daV(l:List (List Q)):V:=daA.v l.length (l.map szD)
def daB(l:List (List Q)):Nat×Bk:=daA.b l.length (l.map szD)
theorem Mw{f:Tg->List Q}{l:List Tg}(hl:l.length<1000)(hd:∀t∈l,MX p c w g f t)(h0:Hp)(hh:∃b u x,h0=[b,(0,u),x])(K:KL):∀(q a:List Tg),l=a++q->K (.exit 0) [daV (l.map f)] [(1,.vars (tuC p c w g)),nnQ,daB (l.map f)] ->
  lp (qt (CX Y) (.ptr 0 1 0 4) (lst di p) (tgs l) (I l.length)) [1] h0 [daV (a.map f),I a.length] [(1,.vars (tuC p c w g)),nnQ,daB (a.map f)] K
 | [],a,e,hK=>by
  simp only[Zm]at e;subst e;refine aj ?_;have hlt:¬((l.length:Int)<(l.length:Int)):=aa;simp only[qt];simp(disch:=try exact ae)[hlt];exact hK
 | t::q,a,e,hK=>by
  refine aj ?_;have hlt:((a.length:Int)<(l.length:Int)):=by rw[e];simp;omega
  have hal:a.length<1000:=aa;have p1:=abO a q t;have p2:=S4 a q t;rw[<-e]at p1 p2;obtain⟨ea,eb,c1,c2,c3⟩:=hd t (by rw[e];simp);have ih:=Mw hl hd h0 hh K q (a++[t]) (by rw[e];simp) hK;have e4:(((a++[t]).length:Nat):Int)=(a.length:Int)+1:=ac;rw[e4,Yw]at ih;have okr:∀r,okV (lst di r)=true:=λr=>rfl
  have li:∀(s:List Q)(h:Hp),du 1 [nPQ] [(0,szV s)] h=some ([szD s],h):=λs h=>Jo ..
  have l4:∀x y,ldA [(1,.vars (tuC p c w g)),x,y] 4 (.ptr 0 1 0 4)=some (tuV p c w g):=λx y=>rfl
  simp only[qt];obtain⟨D0,hD⟩:=nmQ (daB (a.map f));rw[<-hD];simp only[tuV,tuC]at c1 l4 ⊢;simp(disch:=try exact ae)[hlt,p1,p2,okr];refine cd c1 ?_ (by simp[aH,bH,mat]);simp(disch:=try exact ae);refine bM ?_;simp(disch:=try exact ae);refine cd c2 ?_ (by rfl);simp(disch:=try exact ae)
  refine bM ?_;simp(disch:=try exact ae);refine cd c3 ?_ (by rfl);simp(disch:=try exact ae)[li];have al:(a.map f).length=a.length:=ac;have hs:([(1,Bk.vars [lst di p,mat c,mat w,lst szD g]),(1,Bk.vars [lst di t.iv,S t.num,S t.den]),D0]:Hp)[daA.s]?=some (daA.b (a.map f).length ((a.map f).map szD)):=by rw[hD];rfl
  refine j6 daA (by_:=24) (k:=1) (cs:=[szD (f t)]) aa hs (by simp[daA]) rfl rfl (by intro t ht;cases ht) aa af ?_;have ev:daV (a.map f++[f t])=daA.v ((a.map f).length+1) ((a.map f).map szD++[szD (f t)]):=by simp[daV]
  have eb:daB (a.map f++[f t])=daA.b ((a.map f).length+1) ((a.map f).map szD++[szD (f t)]):=by simp[daB]
  simp only[Zv,Yv]at ih;rw[ev,eb]at ih;obtain⟨⟨b1,b2⟩,u,⟨x1,x2⟩,rfl⟩:=hh;have ea:biI BinOp.add (I (a.length:Int)) (V.d (D.int IntKind.i64 1))=some (I ((a.length:Int)+1)):=by simp(disch:=try exact ae)
  exact abg ea ⟨rfl,ih⟩
theorem FW(ht:J5 p c w g){l:List Tg}(hl:l.length<1000)(h0:0<l.length)(hs:∀t∈l,TgS t)(hc:dmB p l=0)(hd:∀t∈l,MX p c w g f t):CP Y F.iG [tuV p c w g,tgs l] (.tup [lst szD (l.map f),I 0]):=by
 refine Az ?_;have hn:=ht.tp.lc.n12;have a1:=D9 ht;have a2:=FN (p:=p) (l:=l) aa aa hs;rw[hc]at a2;have l1:aX (tgs l)=some (I l.length):=rfl;simp only[iG,tuV,tuC];simp(disch:=try exact ae);refine cd (args:=[tuV p c w g]) a1 ?_ (by simp[aH,bH,tuV,tuC,mat]);simp(disch:=try exact ae)
 refine cd a2 ?_ (by rfl);simp(disch:=try exact ae)[l1];refine lo (Mw hl hd _ ⟨_,_,_,rfl⟩ _ l [] rfl ?_);obtain⟨h',e1,_⟩:=k9 daA (L:=(l.map f).length) (cells:=(l.map f).map szD) (h:=[(1,.vars (tuC p c w g)),nnQ,daB (l.map f)]) rfl (by simp[daA]);exact cG e1 rfl
theorem aa1(ht:J5 p c w g)(hs:TgS t)(hc:dmB p [t]=0)(hd:MX p c w g f t):CP Y F.mE [tuV p c w g,.agg [lst di t.iv,S t.num,S t.den]] (.tup [szV (f t),I 0]):=by
 refine Cw ?_;have a1:=FW ht (f:=f) (l:=[t]) ac ac (by simpa using hs) hc (by simpa using hd);simp only[mE,tuV,tuC];have li:∀H:Hp,du 1 [nPQ,D.str [],D.str []] [(0,V.agg [lst di t.iv,S t.num,S t.den])] H=some (tgD t,H):=λH=>rfl
 have i1:∀H:Hp,ixV H 1 (lst szD (List.map f [t])) (I 0)=some (.dptr ((List.map f [t]).map szD) 0):=λH=>rfl
 have i2:∀H:Hp,ld1 H (.dptr ((List.map f [t]).map szD) 0)=some (szV (f t)):=λH=>rfl
 simp only[Zv,Yv]at a1 i1 i2;have e1:V.d (.sl 1 (tgD t))=tgs [t]:=by simp[tgs,gk]
 simp(disch:=try exact ae)[li];rw[e1];refine cd a1 ?_ (by simp[aH,bH,tuV,tuC,mat,tgs,gk]);simp(disch:=try exact ae)[i1,i2];exact⟨_,rfl⟩
theorem UF(x:Tx):CP Y F.jt [.agg [S x.1,S x.2]] (B (!decide (x.1=[48]))):=by refine BU ?_;simp only[jt];simp(disch:=try exact ae);exact gH (by by_cases h:x.1=[48]<;>simp[h])
def Pd(s:List Q):Bool:=(s.map tx).any λx=>!decide (x.1=[48])
def EJ:Nat->List (List Q)->LiQ
 |_,[]=>[]
 |i,s::l=>if Pd s=true then EJ (i+1) l else(i:Int)::EJ (i+1) l
def puA:Acc:=⟨1,0,1,.none⟩
def puV(l:LiQ):V:=puA.v l.length (l.map di)
def puB(l:LiQ):Nat×Bk:=puA.b l.length (l.map di)
theorem BW{l:List (List Q)}(hl:l.length<1000)(hn:∀s∈l,s.length<1000000)(b0:Nat×Bk)(h0:Hp)(K:KL):∀(q a:List (List Q))(z:LiQ),l=a++q->z.length<=a.length->K (.exit 0) [puV (z++EJ a.length q)] [b0,puB (z++EJ a.length q)] ->
  lp (pL (CX Y) (lst szD l) (I l.length)) [] h0 [puV z,I a.length] [b0,puB z] K
 | [],a,z,e,hz,hK=>by
  simp only[Zm]at e;subst e;refine aj ?_;have hlt:¬((l.length:Int)<(l.length:Int)):=aa;simp only[pL];simp(disch:=try exact ae)[hlt];simpa[EJ]using hK
 | s::q,a,z,e,hz,hK=>by
  refine aj ?_;have hlt:((a.length:Int)<(l.length:Int)):=by rw[e];simp;omega
  have hal:a.length<l.length:=aa;have i1:∀h:Hp,ixV h 1 (lst szD l) (I a.length)=some (.dptr (l.map szD) a.length):=λh=>by rw[e];exact uU szD a s q _ _
  have i2:∀h:Hp,ld1 h (.dptr (l.map szD) a.length)=some (szV s):=λh=>by
   rw[pA szD l _ hal];simp only[e,Zg (Z8 _),Y7,Y6];rfl
  have cs:=yb (g:=F.jt) (p:=λx=>!decide (x.1=[48])) (s.map tx) (by rw[List.length_map];exact hn s (by rw[e];simp)) (λx _=>UF x);have e4:(((a++[s]).length:Nat):Int)=(a.length:Int)+1:=ac;have z1:szV s=gk aL (s.map tx):=rfl;have li:∀(i:Int)(h:Hp),du 1 [.int .i64 0] [(0,I i)] h=some ([di i],h):=λi h=>rfl
  obtain⟨Z,hZ⟩:=nmQ (puB z);simp only[EJ]at hK;simp only[pL];rw[<-hZ];simp(disch:=try exact ae)[hlt];refine bM ?_;simp(disch:=try exact ae)[i1,i2,z1];refine cd cs ?_ (by rfl);cases hp:(s.map tx).any (λx=>!decide (x.1=[48]))with
  | true=>
   have ep:Pd s=true:=hp;rw[if_pos ep]at hK;have ih:=BW hl hn b0 h0 K q (a++[s]) z (by rw[e];simp) aN (by rw[List.length_append];exact hK);rw[e4,<-hZ]at ih;simp(disch:=try exact ae);refine bM ?_;simp(disch:=try exact ae);rw[eu];exact lo ih
  | false=>
   have ep:¬Pd s=true:=by unfold Pd;rw[hp];decide
   rw[if_neg ep]at hK;have ih:=BW hl hn b0 h0 K q (a++[s]) (z++[(a.length:Int)]) (by rw[e];simp) aN (by rw[List.length_append,List.append_assoc];exact hK);have ev:puV (z++[(a.length:Int)])=puA.v (z.length+1) (z.map di++[di a.length]):=by simp[puV]
   have eb:puB (z++[(a.length:Int)])=puA.b (z.length+1) (z.map di++[di a.length]):=by simp[puB]
   rw[e4,ev,eb]at ih;simp(disch:=try exact ae);refine bM ?_;simp(disch:=try exact ae)[li];refine j6 puA (L:=z.length) (cells:=z.map di) (by_:=8) (k:=1) (cs:=[di a.length]) aa (by rw[hZ];rfl) (by simp[puA]) rfl rfl (by intro t ht;cases ht) aa af ?_
   have ea:biI BinOp.add (I (a.length:Int)) (V.d (D.int IntKind.i64 1))=some (I ((a.length:Int)+1)):=by simp(disch:=try exact ae)
   refine abg ea ⟨ac,?_⟩;rw[eu];exact ih
theorem Sm(ht:J5 p c w g){l:List Tg}(hl:l.length<1000)(h0:0<l.length)(hs:∀t∈l,TgS t)(hc:dmB p l=0)(hd:∀t∈l,MX p c w g f t)(hf:∀t∈l,(f t).length<1000000):CP Y F.jb [tuV p c w g,tgs l] (.tup [lst di (EJ 0 (l.map f)),I 0]):=by
 refine ya ?_;have a1:=FW ht hl h0 hs hc hd;have l1:aX (lst szD (l.map f))=some (I (l.map f).length):=rfl;simp only[jb,tuV,tuC];simp(disch:=try exact ae);refine cd (args:=[tuV p c w g,tgs l]) a1 ?_ (by simp[aH,bH,tuV,tuC,mat,tgs,gk]);simp(disch:=try exact ae)[l1];have lm:(l.map f).length=l.length:=ac;rw[<-lm]
 refine lo (BW (l:=l.map f) aa (λs hs=>by obtain⟨t,h1,rfl⟩:=Zw.1 hs;exact hf t h1) _ _ _ (l.map f) [] [] rfl (Z8 _) ?_);obtain⟨h',e1,_⟩:=k9 puA (L:=(EJ 0 (l.map f)).length) (cells:=(EJ 0 (l.map f)).map di) (h:=[(1,.vars (tuC p c w g)),puB (EJ 0 (l.map f))]) rfl (by simp[puA]);exact cG e1 rfl
structure Ms where
 t:Tg
 d:List Q
 i:Int
def msD(m:Ms):LdQ:=[row m.t.iv,.str m.t.num,.str m.t.den,szD m.d,di m.i]
def msV(m:Ms):LwQ:=[lst di m.t.iv,S m.t.num,S m.t.den,szV m.d,I m.i]
def tuD(p:LiQ)(c w:Mz)(g:List (List Q)):LdQ:=[row p,.sl c.length (c.map row),.sl w.length (w.map row),.sl g.length (g.map szD)]
theorem Ti{x y:Ms}{e:Int}(h:CP Y F.bP [lst di p,szV y.d,szV x.d] (.tup [I z,I e])):CP Y F.dy [.agg (msV x),.agg (msV y),.dptr (tuD p c w g) 0] (I z):=by
 refine yQ ?_;have l1:∀H:Hp,ld1 H (.dptr (tuD p c w g) 0)=some (lst di p):=λH=>rfl
 simp only[dy,msV];simp(disch:=try exact ae)[l1];refine cd h ?_ (by rfl);simp(disch:=try exact ae)
theorem cdg{C:sE}{h h':Hp}{g:FuncId}{fs cs args ds:LwQ}{v:V}{k:kkQ}{u:PU k}(hs:aH h (fs++args++cs)=some (ds,h'))(hc:C g ds v)(hp:cS v=true)(hk:k v h):rh (cal C h (.fn g fs cs) args) k u:=by
 show cal C h (.fn g fs cs) args k
 unfold cal;simp only[hs];refine⟨v,hc,?_⟩;rw[if_pos hp];exact hk
def ms3(a b d:Ms):LdQ:=msD a++msD b++msD d
def hS(C:LwQ)(a b d:Ms)(r:Hp):Hp:=(1,.vars C)::(1,.data 5 (ms3 a b d) false false)::r
def r4:Hp:=[nnQ,nnQ,nnQ,nnQ]
theorem Tp{a b d:Ms}(h1:CP Y F.bP [lst di p,szV a.d,szV b.d] (.tup [I (-1),I e1]))(h2:CP Y F.bP [lst di p,szV a.d,szV d.d] (.tup [I 1,I e2])):
  CI Y F.ay [.ref 1 1 0 3 3 15,I 0,I 3,.fn F.dy [] [.ptr 0 1 0 4]] (hS (tuC p c w g) a b d r4) (.tup []) (hS (tuC p c w g) b a d r4):=by
 refine ky ?_;have c1:=Ti (p:=p) (c:=c) (w:=w) (g:=g) (x:=b) (y:=a) h1;have c2:=Ti (p:=p) (c:=c) (w:=w) (g:=g) (x:=d) (y:=a) h2;have hg:∀a b d,md (hS (tuC p c w g) a b d r4) 1 1=.data 5 (ms3 a b d) false false:=λa b d=>rfl
 have x0:∀a b d,ixX (.data 5 (ms3 a b d) false false) 5 1 1 0 3 15 0=some (.ptr 1 1 0 15):=λa b d=>rfl
 have x1:∀a b d,ixX (.data 5 (ms3 a b d) false false) 5 1 1 0 3 15 1=some (.ptr 1 1 5 15):=λa b d=>rfl
 have x2:∀a b d,ixX (.data 5 (ms3 a b d) false false) 5 1 1 0 3 15 2=some (.ptr 1 1 10 15):=λa b d=>rfl
 have l0:∀a b d,L3 (.data 5 (ms3 a b d) false false) 5 0 15=some (.agg (msV a)):=λa b d=>rfl
 have l1:∀a b d,L3 (.data 5 (ms3 a b d) false false) 5 5 15=some (.agg (msV b)):=λa b d=>rfl
 have l2:∀a b d,L3 (.data 5 (ms3 a b d) false false) 5 10 15=some (.agg (msV d)):=λa b d=>rfl
 have s0:∀a b d x,stX (.data 5 (ms3 a b d) false false) (hS (tuC p c w g) a b d r4) 1 1 0 15 (msV x)=some (hS (tuC p c w g) x b d r4):=λa b d x=>rfl
 have s1:∀a b d x,stX (.data 5 (ms3 a b d) false false) (hS (tuC p c w g) a b d r4) 1 1 5 15 (msV x)=some (hS (tuC p c w g) a x d r4):=λa b d x=>rfl
 have ml:∀a,(msV a).length=5:=λa=>rfl
 have sn:∀a b d x y,aH (hS (tuC p c w g) a b d r4) ([]++[.agg (msV x),.agg (msV y)]++[.ptr 0 1 0 4])=some ([.agg (msV x),.agg (msV y),.dptr (tuD p c w g) 0],(1,.data 1 (tuD p c w g) false true)::(1,.data 5 (ms3 a b d) false false)::r4):=λa b d x y=>rfl
 have cl:∀a b d (i:Int),clean [] [I i] (hS (tuC p c w g) a b d r4)=true:=λa b d i=>rfl
 have rs:∀a b d a' b' d',aP [] 0 (hS (tuC p c w g) a' b' d' r4) (hS (tuC p c w g) a b d r4)=hS (tuC p c w g) a b d r4:=λa b d a' b' d'=>rfl
 simp only[ay];simp(disch:=try exact ae);refine aj ?_;simp only[bv];simp(disch:=try exact ae);refine aj ?_;simp only[bq];simp(disch:=try exact ae)[hg,x0,x1,l0,l1];refine cdg (sn ..) c1 rfl ?_
 simp(disch:=try exact ae)[hg,x0,x1,l0,l1,ml,s0,s1];rw[rs];refine aj ?_;simp only[bq];simp(disch:=try exact ae)[hg,x0,x1,l0,l1];rw[rs];refine aj ?_;simp only[bv];simp(disch:=try exact ae);refine aj ?_
 simp only[bq];simp(disch:=try exact ae)[hg,x1,x2,l1,l2];refine cdg (sn ..) c2 rfl ?_;simp(disch:=try exact ae);rw[rs];refine aj ?_;simp only[bv];simp(disch:=try exact ae);exact⟨rfl,rfl,.inl ⟨rfl,rfl⟩⟩
def r2:Hp:=[nnQ,nnQ]
def r1:Hp:=[nnQ]
theorem Nh{a b d:Ms}(h1:CP Y F.bP [lst di p,szV a.d,szV b.d] (.tup [I (-1),I e1]))(h2:CP Y F.bP [lst di p,szV a.d,szV d.d] (.tup [I 1,I e2])):
  CI Y F.aQ [.ref 1 1 0 3 3 15,I 3,.fn F.dy [] [.ptr 0 1 0 4]] (hS (tuC p c w g) a b d r2) (.tup []) (hS (tuC p c w g) b a d r2):=by
 refine nj ?_;have si:=Tp (p:=p) (c:=c) (w:=w) (g:=g) h1 h2;have ea:hS (tuC p c w g) a b d r2++[(0,Bk.none),(0,Bk.none)]=hS (tuC p c w g) a b d r4:=rfl;simp only[aQ];simp(disch:=try exact ae)[ea];refine aj ?_;simp only[gG]
 simp(disch:=try exact ae);refine oE (fT si ?_ (by intro _ _ _ _ _ e;cases e));refine aj ?_;simp only[gF];simp(disch:=try exact ae);exact⟨rfl,rfl,.inl ⟨rfl,rfl⟩⟩
theorem To{a b d:Ms}(h1:CP Y F.bP [lst di p,szV a.d,szV b.d] (.tup [I (-1),I e1]))(h2:CP Y F.bP [lst di p,szV a.d,szV d.d] (.tup [I 1,I e2])):
  CI Y F.ak [.ref 1 1 0 3 3 15,.fn F.dy [] [.ptr 0 1 0 4]] (hS (tuC p c w g) a b d r1) (.tup []) (hS (tuC p c w g) b a d r1):=by
 refine gZ ?_;have si:=Nh (p:=p) (c:=c) (w:=w) (g:=g) h1 h2;have ea:hS (tuC p c w g) a b d r1++[(0,Bk.none)]=hS (tuC p c w g) a b d r2:=rfl;have l1:aX (.ref 1 1 0 3 3 15)=some (I 3):=rfl;simp only[ak];simp(disch:=try exact ae)[ea,l1]
 refine oE (fT si ?_ (by intro _ _ _ _ _ e;cases e));exact⟨rfl,rfl,.inl ⟨rfl,rfl⟩⟩
def msL(l:List Ms):V:=gk msD l
def saA:Acc:=⟨1,0,5,.none⟩
def saV(z:List Ms):V:=saA.v z.length (z.flatMap msD)
def saB(z:List Ms):Nat×Bk:=saA.b z.length (z.flatMap msD)
def msG(f:Tg->List Q):Nat->List Tg->List Ms
 |_,[]=>[]
 |i,t::q=>⟨t,f t,i⟩::msG f (i+1) q
theorem Tc{f:Tg->List Q}{l:List Tg}(hl:l.length<1000)(b0 x2:Nat×Bk)(h0:Hp)(K:KL):∀(q a:List Tg)(z:List Ms),l=a++q->z.length=a.length->K (.exit 0) [saV (z++msG f a.length q)] [b0,saB (z++msG f a.length q),x2] ->
  lp (oi (CX Y) (tgs l) (lst szD (l.map f)) (I l.length)) [] h0 [saV z,I a.length] [b0,saB z,x2] K
 | [],a,z,e,hz,hK=>by
  simp only[Zm]at e;subst e;refine aj ?_;have hlt:¬((l.length:Int)<(l.length:Int)):=aa;simp only[oi];simp(disch:=try exact ae)[hlt];simpa[msG]using hK
 | t::q,a,z,e,hz,hK=>by
  refine aj ?_;have hlt:((a.length:Int)<(l.length:Int)):=by rw[e];simp;omega
  have hal:a.length<1000:=aa;have p1:=abO a q t;have p2:=S4 a q t;rw[<-e]at p1 p2
  have i1:∀h:Hp,ixV h 1 (lst szD (l.map f)) (I a.length)=some (.dptr ((l.map f).map szD) a.length):=λh=>by
   have:=uU szD (a.map f) (f t) (q.map f) h .i64;rw[List.length_map,<-Zv,<-Yw,<-e]at this;exact this
  have i2:∀h:Hp,ld1 h (.dptr ((l.map f).map szD) a.length)=some (szV (f t)):=λh=>by
   rw[pA szD (l.map f) _ aN]
   have e6:(l.map f)[a.length]'(by simp;omega)=f t:=by
    simp only[e,Yw,Zv];rw[Zg ac];simp
   rw[e6];rfl
  simp only[msG]at hK;have ih:=Tc hl b0 x2 h0 K q (a++[t]) (z++[⟨t,f t,a.length⟩]) (by rw[e];simp) (by simp[hz]) (by rw[List.length_append,List.append_assoc];exact hK);have e4:(((a++[t]).length:Nat):Int)=(a.length:Int)+1:=ac;have ev:saV (z++[⟨t,f t,a.length⟩])=saA.v (z.length+1) (z.flatMap msD++msD ⟨t,f t,a.length⟩):=by simp[saV]
  have eb:saB (z++[⟨t,f t,a.length⟩])=saA.b (z.length+1) (z.flatMap msD++msD ⟨t,f t,a.length⟩):=by simp[saB]
  rw[e4,ev,eb]at ih;have bl:∀(t:Tg)(d:List Q)(i:Int),bld [(0,3),(3,1),(4,1)] [nPQ,.str [],.str [],nPQ,.int .i64 0] [(0,.agg [lst di t.iv,S t.num,S t.den]),(1,szV d),(2,I i)]=some (.agg (msV ⟨t,d,i⟩)):=λt d i=>rfl
  have li:∀(m:Ms)(H:Hp),du 1 [nPQ,.str [],.str [],nPQ,.int .i64 0] [(0,.agg (msV m))] H=some (msD m,H):=λm H=>rfl
  obtain⟨Z,hZ⟩:=nmQ (saB z);obtain⟨M,hM⟩:=nmQ (l.map f);simp only[oi];rw[<-hZ];rw[<-hM]at i1 i2 ih ⊢;simp(disch:=try exact ae)[hlt,i1,i2,p1,p2,bl,li]
  refine j6 saA (L:=z.length) (cells:=z.flatMap msD) (by_:=88) (k:=1) (cs:=msD ⟨t,f t,a.length⟩) aa (by rw[hZ];rfl) (fP msD (λ_=>rfl) z) rfl rfl (by intro t ht;cases ht) aa af ?_;have ea:biI BinOp.add (I (a.length:Int)) (V.d (D.int IntKind.i64 1))=some (I ((a.length:Int)+1)):=by simp(disch:=try exact ae)
  refine abg ea ⟨ac,?_⟩;rw[eu];exact ih
theorem Nj(ht:J5 p c w g){f:Tg->List Q}{t0 t1 t2:Tg}(hs:∀t ∈ [t0,t1,t2],TgS t)(hc:dmB p [t0,t1,t2]=0)(hd:∀t ∈ [t0,t1,t2],MX p c w g f t){e1 e2:Int}
  (h1:CP Y F.bP [lst di p,szV (f t0),szV (f t1)] (.tup [I (-1),I e1])) (h2:CP Y F.bP [lst di p,szV (f t0),szV (f t2)] (.tup [I 1,I e2])) :
  CP Y F.fj [tuV p c w g,tgs [t0,t1,t2]] (.tup [msL [⟨t1,f t1,1⟩,⟨t0,f t0,0⟩,⟨t2,f t2,2⟩],I 0]):=by
 refine vu ?_;have a1:=FW ht (l:=[t0,t1,t2]) ac ac hs hc hd;obtain⟨d0,q0⟩:∃d,d=f t0:=⟨_,rfl⟩;obtain⟨d1,q1⟩:∃d,d=f t1:=⟨_,rfl⟩;obtain⟨d2,q2⟩:∃d,d=f t2:=⟨_,rfl⟩;simp only[Zv,Yv,<-q0,<-q1,<-q2]at a1 h1 h2 ⊢;have st:=To (p:=p) (c:=c) (w:=w) (g:=g) (a:=⟨t0,d0,0⟩) (b:=⟨t1,d1,1⟩) (d:=⟨t2,d2,2⟩) h1 h2
 have l1:aX (lst szD [d0,d1,d2])=some (I 3):=rfl;simp only[fj,tuV,tuC];simp(disch:=try exact ae);refine cd (args:=[tuV p c w g,tgs [t0,t1,t2]]) a1 ?_ (by simp[aH,bH,tuV,tuC,mat,tgs,gk]);simp(disch:=try exact ae)[l1]
 have ml:=Tc (f:=f) (l:=[t0,t1,t2]) ac (1,.vars (tuC p c w g)) nnQ [(1,.vars (tuC p c w g)),nnQ,nnQ]
  (exK [(Exit.exit 0,λl8 h=>cai (CX Y).i h (V.fn F.ak [] []) [ge l8 0,V.fn F.dy [] [V.ptr 0 1 0 4]] 2 λv9 h=>
   out (V.tup [msL [⟨t1,d1,1⟩,⟨t0,d0,0⟩,⟨t2,d2,2⟩],I 0]) (V.tup [ge l8 0,V.d (D.int IntKind.i64 0)]) h)]) [t0,t1,t2] [] [] rfl rfl ?_
 .simp only[Zv,Yv,<-q0,<-q1,<-q2]at ml;exact lo ml
 simp only[msG,<-q0,<-q1,<-q2];have eV:saV ([]++[⟨t0,d0,((([]:List Tg).length:Nat):Int)⟩,⟨t1,d1,((([]:List Tg).length+1:Nat):Int)⟩,⟨t2,d2,((([]:List Tg).length+1+1:Nat):Int)⟩])=.ref 1 1 0 3 3 15:=rfl
 have eB:saB ([]++[⟨t0,d0,((([]:List Tg).length:Nat):Int)⟩,⟨t1,d1,((([]:List Tg).length+1:Nat):Int)⟩,⟨t2,d2,((([]:List Tg).length+1+1:Nat):Int)⟩])=(1,.data 5 (ms3 ⟨t0,d0,0⟩ ⟨t1,d1,1⟩ ⟨t2,d2,2⟩) false false):=rfl;rw[eV,eB];simp(disch:=try exact ae);refine oE (fT st ?_ (by intro _ _ _ _ _ e;cases e));exact⟨_,rfl⟩
def ms0:Ms:=⟨tg0,[],0⟩
theorem Px(m:Ms):(msD m).length=5:=rfl
theorem ab1(a q:List Ms)(t:Ms)(h:Hp):ixV h 5 (msL (a++t::q)) (I a.length)=some (.dptr ((a++t::q).flatMap msD) (a.length*5)):=jW msD Px _ h (k:=.i64) (i:=(a.length:Int)) aa aN
theorem adq(a q:List Ms)(t:Ms)(h:Hp):ldA h 5 (.dptr ((a++t::q).flatMap msD) (a.length*5))=some (.agg (msV t)):=by have:=kD msD Px ms0 (a++t::q) h (j:=a.length) ac;rw[show nth ms0 (a++t::q) a.length=t by simp]at this;exact this
def gtA:Acc:=⟨2,0,1,.none⟩
def gtV(l:LiQ):V:=gtA.v l.length (l.map di)
def gtN(l:LiQ):Nat×Bk:=gtA.b l.length (l.map di)
def gtI(d:List Q):List Ms->LiQ
 |[]=>[]
 |m::l=>if m.d=d then m.i::gtI d l else gtI d l
theorem ab7{b0:Nat×Bk}(hb:offB [1] b0.2=true)(z:LiQ)(i:Int)(x:Bk):clean [1] [gtV z,I i] [b0,(1,x),gtN z]=true:=by
 have v1:pz [1] (gtV z)=true:=by unfold gtV Acc.v;split<;>rfl
 have v2:offB [1] (gtN z).2=true:=by unfold gtN Acc.b;split<;>rfl
 simp only[clean,ij,v1,xi,hb,v2,Bool.or_true,Yp];rfl
theorem VV{l:List Ms}{m0:Ms}{l':List Ms}(e0:l=m0::l')(hl:l.length<1000)(hs:∀m∈l,m.d.length<1000000)(b0:Nat×Bk)(h0:Hp)(hh:∃u v w,h0=[u,(0,v),w])(hb:offB [1] b0.2=true)(K:KL):∀(q a:List Ms)(z:LiQ),l=a++q->z.length<=a.length->K (.exit 0) [gtV (z++gtI m0.d q)] [b0,nnQ,gtN (z++gtI m0.d q)] ->
  lp (lU (CX Y) (msL l) (msL l) (I l.length)) [1] h0 [gtV z,I a.length] [b0,nnQ,gtN z] K
 | [],a,z,e,hz,hK=>by
  simp only[Zm]at e;subst e;refine aj ?_;have hlt:¬((l.length:Int)<(l.length:Int)):=aa;simp only[lU];simp(disch:=try exact ae)[hlt];simpa[gtI]using hK
 | m::q,a,z,e,hz,hK=>by
  refine aj ?_;have hlt:((a.length:Int)<(l.length:Int)):=by rw[e];simp;omega
  have hal:a.length<1000:=aa;have p1:=ab1 a q m;have p2:=adq a q m;rw[<-e]at p1 p2;have p3:∀h:Hp,ixV h 5 (msL l) (I 0)=some (.dptr (l.flatMap msD) 0):=λh=>by rw[e0];exact ab1 [] l' m0 h
  have p4:∀h:Hp,ld1 h (.dptr (l.flatMap msD) 3)=some (szV m0.d):=λh=>by rw[e0];rfl
  have eq:=Sf (s:=m.d) (t:=m0.d) (hs m (by rw[e];simp));simp only[gtI]at hK;have okm:∀m,(msV m).all okV=true:=λm=>rfl
  obtain⟨Z,hZ⟩:=nmQ (gtN z);simp only[lU];rw[<-hZ];simp(disch:=try exact ae)[hlt];refine bM ?_;simp only[msV]at p2;have okr:∀r,okV (lst di r)=true:=λr=>rfl
  have okz:∀s,okV (szV s)=true:=λr=>rfl
  simp(disch:=try exact ae)[p1,p2,okr,okz,p3,p4];refine cd eq ?_ (by rfl)
  have rs:∀Y x,aP [1] 0 h0 [b0,(1,x),Y]=[b0,nnQ,Y]:=λY x=>by
   obtain⟨u,v,w,rfl⟩:=hh;simp only[pY,Q6];rfl
  have ea:biI BinOp.add (I (a.length:Int)) (V.d (D.int IntKind.i64 1))=some (I ((a.length:Int)+1)):=by simp(disch:=try exact ae)
  have e4:(((a++[m]).length:Nat):Int)=(a.length:Int)+1:=ac;have li:∀(i:Int)(h:Hp),du 1 [.int .i64 0] [(0,I i)] h=some ([di i],h):=λi h=>rfl
  by_cases em:m.d=m0.d
  .rw[if_pos em]at hK;have ih:=VV e0 hl hs b0 h0 hh hb K q (a++[m]) (z++[m.i]) (by rw[e];simp) aN (by rw[List.append_assoc];exact hK);have ev:gtV (z++[m.i])=gtA.v (z.length+1) (z.map di++[di m.i]):=by simp[gtV]
   have eb:gtN (z++[m.i])=gtA.b (z.length+1) (z.map di++[di m.i]):=by simp[gtN]
   have cl:=ab7 hb (z++[m.i]) ((a.length:Int)+1) (.vars [lst di m.t.iv,S m.t.num,S m.t.den,szV m.d,I m.i]);rw[ev,eb]at cl;rw[e4,ev,eb]at ih;have em':decide (m.d=m0.d)=true:=by simp[em]
   rw[em'];simp(disch:=try exact ae);refine bM ?_;simp(disch:=try exact ae)[li];refine j6 gtA (L:=z.length) (cells:=z.map di) (by_:=8) (k:=1) (cs:=[di m.i]) aa (by rw[hZ];rfl) (by simp[gtA]) rfl rfl (by intro t ht;cases ht) aa af ?_;refine abg ea ⟨cl,?_⟩
   have:=rs (gtA.b (z.length+1) (z.map di++[di m.i])) (.vars [lst di m.t.iv,S m.t.num,S m.t.den,szV m.d,I m.i])
   show lp _ _ _ _ (aP [1] 0 h0 [b0,(1,.vars [lst di m.t.iv,S m.t.num,S m.t.den,szV m.d,I m.i]),gtA.b (z.length+1) (z.map di++[di m.i])]) _
   rw[this];exact ih
  .rw[if_neg em]at hK;have ih:=VV e0 hl hs b0 h0 hh hb K q (a++[m]) z (by rw[e];simp) aN hK;have cl:=ab7 hb z ((a.length:Int)+1) (.vars [lst di m.t.iv,S m.t.num,S m.t.den,szV m.d,I m.i]);rw[<-hZ]at cl ih;rw[e4]at ih;have em':decide (m.d=m0.d)=false:=by simp[em]
   rw[em'];simp(disch:=try exact ae);refine bM ?_;simp(disch:=try exact ae);refine⟨cl,?_⟩;rw[rs];exact lo ih
theorem JB(ht:J5 p c w g){f:Tg->List Q}{t0 t1 t2:Tg}(hs:∀t ∈ [t0,t1,t2],TgS t)(hc:dmB p [t0,t1,t2]=0)(hd:∀t ∈ [t0,t1,t2],MX p c w g f t){e1 e2:Int}(hf:∀t ∈ [t0,t1,t2],(f t).length<1000000)
  (h1:CP Y F.bP [lst di p,szV (f t0),szV (f t1)] (.tup [I (-1),I e1])) (h2:CP Y F.bP [lst di p,szV (f t0),szV (f t2)] (.tup [I 1,I e2])) :
  CP Y F.d7 [tuV p c w g,tgs [t0,t1,t2]] (.tup [szV (f t1),lst di (gtI (f t1) [⟨t1,f t1,1⟩,⟨t0,f t0,0⟩,⟨t2,f t2,2⟩]),I 0]):=by
 refine sY ?_;have a1:=Nj ht hs hc hd h1 h2;obtain⟨l,hl⟩:∃l:List Ms,l=[⟨t1,f t1,1⟩,⟨t0,f t0,0⟩,⟨t2,f t2,2⟩]:=⟨_,rfl⟩;rw[<-hl]at a1 ⊢;have l1:aX (msL l)=some (I 3):=by rw[hl];rfl
 have p3:∀h:Hp,ixV h 5 (msL l) (I 0)=some (.dptr (l.flatMap msD) 0):=λh=>by rw[hl];rfl
 have p4:∀h:Hp,ld1 h (.dptr (l.flatMap msD) 3)=some (szV (f t1)):=λh=>by rw[hl];rfl
 simp only[d7,tuV,tuC];simp(disch:=try exact ae);refine cd (args:=[tuV p c w g,tgs [t0,t1,t2]]) a1 ?_ (by simp[aH,bH,tuV,tuC,mat,tgs,gk]);simp(disch:=try exact ae)[l1]
 have ml:=VV hl (by rw[hl];simp) (λm hm=>by rw[hl]at hm;simp at hm;rcases hm with rfl|rfl|rfl<;>exact hf _ ac) (1,.vars (tuC p c w g)) [(1,.vars (tuC p c w g)),nnQ,nnQ] ⟨_,_,_,rfl⟩ rfl
  (exK [(Exit.exit 0,λl10 h=>bnd (ixV h 5 (msL l) (.d (.int .i64 0))) λv11=>bnd (faV 3 v11) λv12=>bnd (ld1 h v12) λv13=>out (.tup [szV (f t1),lst di (gtI (f t1) l),I 0]) (.tup [v13,(ge l10 0),(.d (.int .i64 0))]) h)]) l [] [] rfl (Z8 _) ?_
 .rw[show l.length=3 by rw[hl];rfl]at ml;exact lo ml
 simp(disch:=try exact ae)[p3,p4];obtain⟨h',e5,_⟩:=k9 gtA (L:=(gtI (f t1) l).length) (cells:=(gtI (f t1) l).map di) (h:=[(1,.vars (tuC p c w g)),nnQ,gtN (gtI (f t1) l)]) rfl (by simp[gtA]);have e6:=KE (f t1) [(1,.vars (tuC p c w g)),nnQ,gtN (gtI (f t1) l)]
 have e7:bH [(1,.vars (tuC p c w g)),nnQ,gtN (gtI (f t1) l)] (gtV (gtI (f t1) l))=some (.d (.sl (gtI (f t1) l).length ((gtI (f t1) l).map di)),h'):=e5;refine⟨h',?_⟩;simp only[bH,aH,e6,e7];rfl
variable{x0 x1 x3:Nat×Bk}{e:Nat}
variable{p:LiQ}{c w:Mz}
variable{l:Int->Nat}{N:Nat}
variable{a:Ad}
variable{a:Ad}{h:Hp}
section
variable{p:LiQ}{b:Nat}
variable{B:Nat}{owns:List LLQ}{steps:List (List LLQ)}
end
variable{a:Ad}
section
variable{p:LiQ}{b B:Nat}{owns:List LLQ}{steps:List (List LLQ)}
end
variable{g:FuncId}{cs:LwQ}{cf:List Q->List Q->Int}
variable{p:LiQ}{c w:Mz}
def Lo(s:List Q):Bool:=s.all λx=>decide (0<x.2)&&(Nat.gcd x.1.natAbs x.2 == 1)&&decide (ndg x.1.natAbs<=30)&&decide (ndg x.2<=30)
theorem sQ(h:Lo s=true):okS s:=λx hx=>by
 have:=Z1.1 h x hx;simp only[Z7,decide_eq_true_eq,beq_iff_eq]at this;exact⟨⟨this.1.1.1,this.1.1.2⟩,this.1.2,this.2⟩
def lsB(l:LiQ):Bool:=l.all λz=>decide (-1000000000<=z)&&decide (z<=1000000000)
theorem NO{l:LiQ}(h:lsB l=true):bd9 l:=λz hz=>by
 have:=Z1.1 h z hz
 grind
def ltB(n:Nat)(m:Mz):Bool:=decide (0<n)&&decide (n<=12)&&decide (m.length<=12)&&m.all λr=>decide (r.length=n)&&lsB r
theorem Vf(h:ltB n m=true):sy n m:=by simp only[ltB,Z7,decide_eq_true_eq,Z1]at h;exact⟨h.1.1.1,h.1.1.2,h.1.2,λr hr=>(h.2 r hr).1,λr hr=>NO (h.2 r hr).2⟩
def p5:LiQ:=[2,3,5]
def mtC:Mz:=[[4,-4,1]]
def mtW:Mz:=[[1,0,-4],[0,1,4]]
theorem Va:Da p5 mtC mtW where
 pr:=by rfl
 lc:=Vf (by rfl)
 lw:=Vf (by rfl)
 ch:=by rfl
 k1:=⟨20,100,af,by rfl,by rfl⟩
theorem li3(a b c:Int)(h:Hp):du 3 [.int .i64 0] [(0,.d (.int .i64 a)),(1,.d (.int .i64 b)),(2,.d (.int .i64 c))] h=some ([.int .i64 a,.int .i64 b,.int .i64 c],h):=by rfl
theorem t6{n d:Int}(hd:d≠0)(h1 : -9223372036854775808<n)(h2:n<9223372036854775808)(h3 : -9223372036854775808<d)(h4:d<9223372036854775808):CP Y F.aC [I n,I d] (.agg (qT (sf n d))):=by refine xF ?_;have fo:=FH hd h1 h2 h3 h4;simp only[qT]at fo;simp only[aC];simp(disch:=try exact ae);refine cd fo ?_;simp(disch:=try exact ae);exact jm rfl rfl
def mtG:List (List Q):=[[(1,1),(0,1),(0,1)],[(1,1),(0,1),(1,4)]]
theorem Jf:J5 p5 mtC mtW mtG where
 tp:=Va
 gl:=af
 gs:=λs hs=>by
  have:=Z1.1 (show(mtG.all λs=>decide (s.length=p5.length)&&Lo s)=true by decide+kernel) s hs;simp only[Z7,decide_eq_true_eq]at this;exact⟨this.1,sQ this.2⟩
def kZ(s:List Q):Int:=if tq p5 s=[]then 0 else yq (tq p5 s)
def kzB(s:List Q):Bool:=decide ((tq p5 s).length<=600∧∀t∈tq p5 s,2<=t.1∧t.1<1000000∧t.2.natAbs<9223372036854775808)&&decide (tq p5 s≠[]->yq (tq p5 s)≠0)
theorem ab5(h:kzB s=true):TL p5 s (kZ s):=by simp only[kzB,Z7,decide_eq_true_eq]at h;exact λd=>TF h.1 h.2
def wtQ(t:Tg):Q:=(rdF t.num t.den).getD (0,1)
def erK(t:Tg):List Q:=GF p5 mtW mtG t.iv
def abK(t:Tg):List Q:=abI p5 (erK t) (kZ (erK t))
def dmK(t:Tg):List Q:=qM p5.length [abK t] [wtQ t]
def Js(s:List Q):Bool:=decide (s.length=p5.length)
def ad5(t:Tg):Bool:=decide (t.iv.length=p5.length)&&smR t.iv&&lsB t.iv&&decide (rcB t.iv=0)&&lsB (kw mtW t.iv)
def ad4(t:Tg):Bool:=Lo (erK t)&&Js (erK t)&&kzB (erK t)&&Lo (abK t)&&Js (abK t)&&Lo (dmK t)&&Js (dmK t)&&decide (-1<=kZ (erK t)∧kZ (erK t)<=1)
def ad3(t:Tg):Bool:=decide (rdF t.num t.den=some (wtQ t))&&Lo [wtQ t]
theorem adT(c1:ad5 t=true)(c2:ad4 t=true)(c3:ad3 t=true):MX p5 mtC mtW mtG dmK t:=by
 simp only[ad5,Z7,decide_eq_true_eq]at c1;simp only[ad4,Js,Z7,decide_eq_true_eq]at c2;simp only[ad3,Z7,decide_eq_true_eq]at c3;obtain⟨⟨⟨⟨a1,a2⟩,a3⟩,a4⟩,a5⟩:=c1;obtain⟨⟨⟨⟨⟨⟨⟨b1,b2⟩,b3⟩,b4⟩,b5⟩,b6⟩,b7⟩,b8⟩:=c2;have pc:pcB p5=0:=Va.pr
 refine⟨erK t,abK t,SP Jf af ⟨a1,a2,NO a3,a4,NO a5⟩ (sQ b1),abJ pc af b2 (sQ b1) (ab5 b3) b8.1 b8.2,?_⟩;have sc:=TO (p:=p5) (s:=abK t) (k:=wtQ t) pc af b5 (sQ b4) (sQ c3.2 (wtQ t) ac) (sQ b6);obtain⟨e1,e2⟩:=IB c3.1;simp only[qT]at sc;rw[<-e1,<-e2]at sc;exact sc
def kT0:Tg:=⟨[-1,1,0],[49],[49]⟩
def kT1:Tg:=⟨[1,1,-1],[50],[49]⟩
def kT2:Tg:=⟨[-2,0,1],[49],[49]⟩
def kTs:List Tg:=[kT0,kT1,kT2]
theorem kDm:∀t∈kTs,MX p5 mtC mtW mtG dmK t:=λt ht=>by
 have:=Z1.1 (show(kTs.all λt=>ad5 t&&ad4 t&&ad3 t)=true by decide+kernel) t ht;simp only[Z7]at this;exact adT this.1.1 this.1.2 this.2
theorem ady:∀t∈kTs,TgS t:=λt ht=>by
 simp only[kTs,Zu,Y1,or_false]at ht;rcases ht with rfl|rfl|rfl<;>exact⟨af,af,af⟩
theorem afD{s:Tg}(hs:s∈kTs)(ht:t∈kTs)(h:kZ (dfS p5 (dmK s) (dmK t))=z)(hq:kzB (dfS p5 (dmK s) (dmK t))=true):CP Y F.bP [lst di p5,szV (dmK s),szV (dmK t)] (.tup [I z,I 0]):=by
 have key:∀t∈kTs,Js (dmK t)=true∧Lo (dmK t)=true:=λt ht=>by
  have:=Z1.1 (show(kTs.all λt=>Js (dmK t)&&Lo (dmK t))=true by decide+kernel) t ht;simpa only[Z7]using this
 obtain⟨a1,a2⟩:=key s hs;obtain⟨b1,b2⟩:=key t ht;simp only[Js,decide_eq_true_eq]at a1 b1;have c:=ab5 hq;rw[h]at c;exact MY Va.pr af a1 b1 (sQ a2) (sQ b2) c
theorem afC:∀t∈kTs,(dmK t).length<1000000:=λt ht=>by
 have:=Z1.1 (show(kTs.all λt=>Js (dmK t))=true by decide+kernel) t ht;simp only[Js,decide_eq_true_eq]at this;rw[this];decide
theorem kOf:CP Y F.mE [tuV p5 mtC mtW mtG,.agg [lst di kT0.iv,S kT0.num,S kT0.den]] (.tup [szV [(-1,1),(1,1),(-1,4)],I 0]):=by
 have:=aa1 Jf (f:=dmK) (t:=kT0) (ady _ (by simp[kTs])) aR (kDm _ (by simp[kTs]))
 rwa [show dmK kT0=[(-1,1),(1,1),(-1,4)] by decide+kernel]at this
theorem RP:CP Y F.d7 [tuV p5 mtC mtW mtG,tgs kTs] (.tup [szV [(-2,1),(2,1),(-1,2)],lst di [1],I 0]):=by
 have:=JB Jf (f:=dmK) (t0:=kT0) (t1:=kT1) (t2:=kT2) ady aR kDm (e1:=0) (e2:=0) afC
  (afD (by simp[kTs]) (by simp[kTs]) aR aR) (afD (by simp[kTs]) (by simp[kTs]) aR aR)
 have e1:gtI (dmK kT1) [⟨kT1,dmK kT1,1⟩,⟨kT0,dmK kT0,0⟩,⟨kT2,dmK kT2,2⟩]=[1]:=aR;rw[e1,show dmK kT1=[(-2,1),(2,1),(-1,2)] by decide+kernel]at this;exact this
theorem afB:CP Y F.jb [tuV p5 mtC mtW mtG,tgs kTs] (.tup [lst di [2],I 0]):=by
 have:=Sm Jf (f:=dmK) (l:=kTs) af af ady aR kDm afC
 rwa [show EJ 0 (kTs.map dmK)=[2] by decide+kernel]at this
theorem afp(a b c:Q)(h:Hp):du 3 [D.str [],D.str []] [(0,.agg (qT a)),(1,.agg (qT b)),(2,.agg (qT c))] h=some (prC [a,b,c],h):=rfl
theorem NM:CP Y F.cJ [] (tuV p5 mtC mtW mtG):=by
 refine tV ?_;have q0:=t6 (n:=0) (d:=1) af af af af af;have q1:=t6 (n:=1) (d:=1) af af af af af;have q2:=t6 (n:=1) (d:=4) af af af af af;rw[show sf 0 1=(0,1) by decide+kernel]at q0
 rw[show sf 1 1=(1,1) by decide+kernel]at q1;rw[show sf 1 4=(1,4) by decide+kernel]at q2;have l3:=λh=>afp (1,1) (0,1) (0,1) h
 have l4:=λh=>afp (1,1) (0,1) (1,4) h
 simp only[qT]at q0 q1 q2 l3 l4;simp only[cJ];simp(disch:=try exact ae);refine cd q0 ?_;simp(disch:=try exact ae);refine cd q1 ?_;simp(disch:=try exact ae)[li3,Jo,aau,l3,l4];refine cds q2 ?_;simp(disch:=try exact ae)[li3,Jo,aau,l3,l4];exact⟨_,rfl⟩
theorem zC{n d:Int}{a b:LuQ}(hd:d≠0)(h1 : -9223372036854775808<n)(h2:n<9223372036854775808)(h3 : -9223372036854775808<d)(h4:d<9223372036854775808)(ha:itoa (sf n d).1=a)(hb:ah (sf n d).2=b):CP Y F.aC [I n,I d] (.agg [S a,S b]):=by have:=t6 hd h1 h2 h3 h4;simp only[qT,ha,hb]at this;exact this
theorem Ff:CP Y F.dT [] (B true):=by
 refine ww ?_;have q1:CP Y F.aC [I 1,I 1] (.agg [S [49],S [49]]):=zC af af af af af aR aR;have q2:CP Y F.aC [I 2,I 1] (.agg [S [50],S [49]]):=zC af af af af af aR aR
 have q3:CP Y F.aC [I (-1),I 1] (.agg [S [45,49],S [49]]):=zC af af af af af aR aR;have q4:CP Y F.aC [I (-1),I 4] (.agg [S [45,49],S [52]]):=zC af af af af af aR aR
 have q5:CP Y F.aC [I (-2),I 1] (.agg [S [45,50],S [49]]):=zC af af af af af aR aR;have mt:=NM;have c1:=kOf;have c2:=RP;have c3:=afB;have tv:tuV p5 mtC mtW mtG=.agg [lst di p5,mat mtC,mat mtW,lst szD mtG]:=rfl;have i1:itoa (-1)=[45,49]:=aR;have i2:itoa 1=[49]:=aR
 have i3:itoa (-2)=[45,50]:=aR;have n1:ah 1=[49]:=aR;have n4:ah 4=[52]:=aR;have x0:∀h:Hp,ixV h 2 (szV [(-1,1),(1,1),(-1,4)]) (I 0)=some (.dptr (prC [(-1,1),(1,1),(-1,4)]) 0):=λh=>rfl
 have x1:∀h:Hp,ixV h 2 (szV [(-1,1),(1,1),(-1,4)]) (I 1)=some (.dptr (prC [(-1,1),(1,1),(-1,4)]) 2):=λh=>rfl
 have x2:∀h:Hp,ixV h 2 (szV [(-1,1),(1,1),(-1,4)]) (I 2)=some (.dptr (prC [(-1,1),(1,1),(-1,4)]) 4):=λh=>rfl
 have y0:∀h:Hp,ldA h 2 (.dptr (prC [(-1,1),(1,1),(-1,4)]) 0)=some (.agg [S [45,49],S [49]]):=λh=>by rw[<-i1,<-n1];rfl
 have y1:∀h:Hp,ldA h 2 (.dptr (prC [(-1,1),(1,1),(-1,4)]) 2)=some (.agg [S [49],S [49]]):=λh=>by
  have:ldA h 2 (.dptr (prC [(-1,1),(1,1),(-1,4)]) 2)=some (.agg [S (itoa 1),S (ah 1)]):=rfl;rw[this,i2,n1]
 have y2:∀h:Hp,ldA h 2 (.dptr (prC [(-1,1),(1,1),(-1,4)]) 4)=some (.agg [S [45,49],S [52]]):=λh=>by rw[<-i1,<-n4];rfl
 have x3:∀h:Hp,ixV h 2 (szV [(-2,1),(2,1),(-1,2)]) (I 0)=some (.dptr (prC [(-2,1),(2,1),(-1,2)]) 0):=λh=>rfl
 have y3:∀h:Hp,ldA h 2 (.dptr (prC [(-2,1),(2,1),(-1,2)]) 0)=some (.agg [S [45,50],S [49]]):=λh=>by rw[<-i3,<-n1];rfl
 have z1:aX (szV [(-1,1),(1,1),(-1,4)])=some (I 3):=rfl;have z2:aX (szV [(-2,1),(2,1),(-1,2)])=some (I 3):=rfl;have be:∀a b:LuQ,biA [.str [],.str []] .eql (.agg [S a,S b]) (.agg [S a,S b])=some (B true):=λa b=>by rw[abp];simp
 generalize hA:szV [(-1,1),(1,1),(-1,4)]=A at *;generalize hB:szV [(-2,1),(2,1),(-1,2)]=B' at *;generalize prC [(-1,1),(1,1),(-1,4)]=PA at *;generalize prC [(-2,1),(2,1),(-1,2)]=PB at *
 have lt:∀h:Hp,du 3 [nPQ,.str [],.str []] [(0,.agg [.d (.sl 3 [.int .i64 (-1),.int .i64 1,.int .i64 0]),S [49],S [49]]),(1,.agg [.d (.sl 3 [.int .i64 1,.int .i64 1,.int .i64 (-1)]),S [50],S [49]]),(2,.agg [.d (.sl 3 [.int .i64 (-2),.int .i64 0,.int .i64 1]),S [49],S [49]])] h=some (kTs.flatMap tgD,h):=λh=>rfl
 have t0:∀h:Hp,ixV h 3 (.d (.sl 3 (kTs.flatMap tgD))) (I 0)=some (.dptr (kTs.flatMap tgD) 0):=λh=>rfl
 have t1:∀h:Hp,ldA h 3 (.dptr (kTs.flatMap tgD) 0)=some (.agg [lst di kT0.iv,S kT0.num,S kT0.den]):=λh=>rfl
 have tg:V.d (.sl 3 (kTs.flatMap tgD))=tgs kTs:=rfl;simp only[dT];simp(disch:=try exact ae)[li3];refine cd q1 ?_;simp(disch:=try exact ae)[li3];refine cd q2 ?_;simp(disch:=try exact ae)[li3];refine cd q1 ?_;simp(disch:=try exact ae)[lt];refine cd mt ?_;simp(disch:=try exact ae)[t0,t1]
 have st:∀h:Hp,bH h (tuV p5 mtC mtW mtG)=some (tuV p5 mtC mtW mtG,h):=λh=>rfl
 have sT:∀h:Hp,bH h (.d (.sl 3 (kTs.flatMap tgD)))=some (tgs kTs,h):=λh=>rfl
 have sK:∀h:Hp,bH h (.agg [lst di kT0.iv,S kT0.num,S kT0.den])=some (.agg [lst di kT0.iv,S kT0.num,S kT0.den],h):=λh=>rfl
 have w0:∀h:Hp,ixV h 1 (lst di [1]) (I 0)=some (.dptr ([1].map di) 0):=λh=>rfl
 have w1:∀h:Hp,ld1 h (.dptr (([1]:LiQ).map di) 0)=some (I 1):=λh=>rfl
 have w2:∀h:Hp,ixV h 1 (lst di [2]) (I 0)=some (.dptr ([2].map di) 0):=λh=>rfl
 have w3:∀h:Hp,ld1 h (.dptr (([2]:LiQ).map di) 0)=some (I 2):=λh=>rfl
 have w4:aX (lst di [1])=some (I 1):=rfl;have w5:aX (lst di [2])=some (I 1):=rfl;refine cdz (by simp only[aH,st,sK];rfl) c1 ?_;simp(disch:=try exact ae);refine cd mt ?_;simp(disch:=try exact ae);refine cdz (by simp only[aH,st,sT];rfl) c2 ?_;simp(disch:=try exact ae);refine cd mt ?_
 simp(disch:=try exact ae);refine cdz (by simp only[aH,st,sT];rfl) c3 ?_;simp(disch:=try exact ae)[z1,x0,y0];refine cd q3 ?_;simp(disch:=try exact ae)[be,x1,y1];refine cd q1 ?_;simp(disch:=try exact ae)[be,x2,y2];refine cd q4 ?_;simp(disch:=try exact ae)[be,z2,x3,y3];refine cd q5 ?_
 simp(disch:=try exact ae)[be,w0,w1,w2,w3,w4,w5]
variable{p:LiQ}{c w w':Mz}{e:Int}
abbrev Ve:=Nat->Int
variable{v u:Ve}
def cmb:LiQ->List Ve->Ve
 |k::ks,h::hs=>λi=>k*h i+cmb ks hs i
 |_,_=>λ_=>0
def Spn(m:List Ve)(v:Ve):Prop:=∃ks,v=cmb ks m
def adp:LiQ->LiQ->LiQ
 |k::ks,k'::ks'=>(k+k')::adp ks ks'
 |[],l=>l
 |l,[]=>l
theorem vk(m:List Ve):cmb [] m=λ_=>0:=by cases m<;>rfl
theorem Qp:∀(ks ks':LiQ)(m:List Ve)(i:Nat),cmb (adp ks ks') m i=cmb ks m i+cmb ks' m i
 |_,_,[],i=>by cases ‹LiQ› <;>simp[cmb]
 |[],l,h::m,i=>by simp[adp,vk]
 |k::ks,[],h::m,i=>by simp[adp,vk]
 | k::ks,k'::ks',h::m,i=>by
  simp only[adp,cmb,Qp ks ks' m i]
  grind
theorem Qo(c:Int):∀(ks:LiQ)(m:List Ve)(i:Nat),cmb (ks.map (c * ·)) m i=c*cmb ks m i
 |[],m,i=>by simp[vk]
 |k::ks,[],i=>by simp[cmb]
 | k::ks,h::m,i=>by
  simp only[Zv,cmb,Qo c ks m i]
  grind
theorem Spn.zero(m:List Ve):Spn m λ_=>0:=⟨[],(vk m).symm⟩
theorem Spn.add{m:List Ve}(hu:Spn m u)(hv:Spn m v):Spn m λi=>u i+v i:=by obtain⟨a,rfl⟩:=hu;obtain⟨b,rfl⟩:=hv;exact⟨adp a b,funext λi=>(Qp a b m i).symm⟩
theorem Spn.mul{m:List Ve}(c:Int)(hu:Spn m u):Spn m λi=>c*u i:=by obtain⟨a,rfl⟩:=hu;exact⟨a.map (c * ·),funext λi=>(Qo c a m i).symm⟩
theorem Spn.sub{m:List Ve}(hu:Spn m u)(hv:Spn m v):Spn m λi=>u i-v i:=by
 have:=hu.add (hv.mul (-1))
 grind
theorem Spn.mem:∀{m:List Ve}{h:Ve},h∈m->Spn m h
 | g::m,h,hm=>by
  rcases Zu.1 hm with rfl|hm
  .exact⟨[1],funext λi=>by simp[cmb,vk]⟩
  .obtain⟨ks,e⟩:=Spn.mem hm;exact⟨0::ks,funext λi=>by grind[cmb]⟩
theorem Spn.le:∀{m m':List Ve},(∀h∈m,Spn m' h)->∀{v},Spn m v->Spn m' v:=λ{m m'} hm {v} hv=>by
 obtain⟨ks,rfl⟩:=hv
 induction m generalizing ks with
 |nil=>cases ks<;>exact Spn.zero m'
 | cons h m ih=>
  cases ks with
  |nil=>simp[vk,zero]
  |cons k ks=>exact((hm h ac).mul k).add (ih (λg hg=>hm g (by grind)) ks)
def Hnf:Nat->List (Nat×Ve)->Prop
 |_,[]=>True
 |o,(l,h)::m=>(o<=l∧0<h l∧∀j,j<l->h j=0)∧(∀x∈m,0<=h x.1∧h x.1<x.2 x.1)∧Hnf (l+1) m
def vs(m:List (Nat×Ve)):List Ve:=m.map (·.2)
theorem VS(h:o'<=o):∀{m:List (Nat×Ve)},Hnf o m->Hnf o' m
 |[],_=>trivial
 |(l,g)::m,⟨⟨a,b⟩,c⟩=>⟨⟨aa,b⟩,c⟩
theorem rz:∀{m:List (Nat×Ve)}{o:Nat},Hnf o m->∀{v},Spn (vs m) v->∀j,j<o->v j=0
 |[],o,_,v,⟨ks,e⟩,j,hj=>by subst e;cases ks<;>rfl
 | (l,h)::m,o,⟨⟨a,b,c⟩,d,r⟩,v,⟨ks,e⟩,j,hj=>by
  subst e;cases ks with
  |nil=>rfl
  | cons k ks=>
   have h2:=rz r ⟨ks,rfl⟩ j aa
   grind[vs,cmb]
theorem qE:∀{m:List (Nat×Ve)}{o:Nat},Hnf o m->∀{v},Spn (vs m) v->(∀j,v j=0)∨∃x∈m,(∀j,j<x.1->v j=0)∧v x.1≠0∧x.2 x.1∣v x.1
 |[],o,_,v,⟨ks,e⟩=>.inl λj=>by subst e;cases ks<;>rfl
 | (l,h)::m,o,⟨⟨a,b,c⟩,d,r⟩,v,⟨ks,e⟩=>by
  subst e;cases ks with
  |nil=>exact .inl λj=>rfl
  | cons k ks=>
   have h2:=λj hj=>rz r (v:=cmb ks (vs m)) ⟨ks,rfl⟩ j hj
   by_cases hk:k=0
   .subst hk;have e:cmb (0::ks) (vs ((l,h)::m))=cmb ks (vs m):=funext λi=>by simp[vs,cmb]
    rw[e];rcases qE r (v:=cmb ks (vs m)) ⟨ks,rfl⟩with z|⟨x,hx,p⟩
    .grind
    grind
   .refine .inr ⟨(l,h),ac,λj hj=>?_,?_,?_⟩
    .show k*h j+cmb ks (vs m) j=0
     rw[c j hj,h2 j aa];simp
    .show k*h l+cmb ks (vs m) l≠0
     rw[h2 l aa,Int.add_zero];exact Wt hk aa
    grind[cmb,vs,Int.dvd_mul_left]
theorem zY{l:Nat}{h:Ve}{m:List (Nat×Ve)}{o:Nat}(H:Hnf o ((l,h)::m)){v:Ve}(hv:Spn (vs ((l,h)::m)) v)(h0:v l=0):Spn (vs m) v:=by
 obtain⟨⟨a,b,c⟩,d,r⟩:=H;obtain⟨ks,rfl⟩:=hv;cases ks with
 |nil=>exact Spn.zero _
 | cons k ks=>
  have h2:=rz r (v:=cmb ks (vs m)) ⟨ks,rfl⟩ l aa;have h3:k*h l+cmb ks (vs m) l=0:=h0;rw[h2,Int.add_zero]at h3
  have hk:k=0:=by
   rcases Int.mul_eq_zero.1 h3 with h|h
   .exact h
   .omega
  subst hk;exact⟨ks,funext λi=>by simp[vs,cmb]⟩
theorem yI:∀{m:List (Nat×Ve)}{o:Nat},Hnf o m->∀x∈m,o<=x.1
 | (l,h)::m,o,⟨⟨a,b⟩,d,r⟩,x,hx=>by
  rcases Zu.1 hx with rfl|hx
  .exact a
  .have:=yI r x hx;omega
theorem Mc{l l':Nat}{h h':Ve}{m m':List (Nat×Ve)}{o o':Nat}(H:Hnf o ((l,h)::m))(H':Hnf o' ((l',h')::m'))(e:Spn (vs ((l',h')::m')) h):l'<=l∧(l=l'->h' l∣h l):=by
 obtain⟨⟨a,b,c⟩,d,r⟩:=H;rcases qE H' e with z|⟨x,hx,p1,p2,p3⟩
 .exact absurd (z l) aa
 ·have e1:x.1=l:=by
   rcases Nat.lt_trichotomy x.1 l with g|g|g
   .grind
   .exact g
   .grind
  have ge:=yI H' x hx;obtain⟨⟨a',b',c'⟩,d',r'⟩:=H'
  have hg:l'<=x.1:=by
   rcases Zu.1 hx with rfl|hx
   .omega
   .have:=yI r' x hx;omega
  refine⟨aa,λel=>?_⟩;rcases Zu.1 hx with rfl|hx
  .grind
  grind[yI]
theorem Mb:∀{m m':List (Nat×Ve)}{o:Nat},Hnf o m->Hnf o m'->(∀v,Spn (vs m) v↔Spn (vs m') v)->m=m'
 |[],[],_,_,_,_=>rfl
 | [],(l,h)::m',o,H,H',e=>by
  have h1:=(e h).2 (Spn.mem (by simp[vs]));rcases qE H h1 with z|⟨x,hx,_⟩
  .have:=H'.1.2.1;grind
  trivial
 | (l,h)::m,[],o,H,H',e=>by
  have h1:=(e h).1 (Spn.mem (by simp[vs]));rcases qE H' h1 with z|⟨x,hx,_⟩
  .have:=H.1.2.1;grind
  trivial
 | (l,h)::m,(l',h')::m',o,H,H',e=>by
  have a1:=Mc H H' ((e h).1 (Spn.mem (by simp[vs])));have a2:=Mc H' H ((e h').2 (Spn.mem (by simp[vs])));obtain rfl:l=l':=aa;have d1:=a1.2 rfl;have d2:=a2.2 rfl;have p1:=H.1.2.1;have p2:=H'.1.2.1;have el:h l=h' l:=Int.le_antisymm (Int.le_of_dvd p2 d2) (Int.le_of_dvd p1 d1)
  have te:∀v,Spn (vs m) v↔Spn (vs m') v:=λv=>by
   constructor
   .intro hv;have z:v l=0:=rz H.2.2 hv l aa
    grind[zY,Spn.le,Spn.mem,vs]
   .intro hv;have z:v l=0:=rz H'.2.2 hv l aa
    grind[zY,Spn.le,Spn.mem,vs]
  obtain rfl:=Mb H.2.2 H'.2.2 te;have hu:Spn (vs ((l,h)::m)) λi=>h i-h' i:=Spn.sub (Spn.mem (by simp[vs])) ((e h').2 (Spn.mem (by simp[vs])))
  have hu2:=zY H hu aa
  have eh:h=h':=by
   rcases qE H.2.2 hu2 with z|⟨x,hx,q1,q2,q3⟩
   .grind
   .have b1:=H.2.1 x hx;have b2:=H'.2.1 x hx;exact absurd (Int.eq_zero_of_dvd_of_natAbs_lt_natAbs q3 aa) q2
  rw[eh]
abbrev eZ(m:Mz)(i j:Nat):Int:=nth 0 (nth [] m i) j
def ve(r:LiQ):Ve:=λi=>nth 0 r i
def Ln(n:Nat)(m:Mz):Prop:=∀i,i<m.length->(nth [] m i).length=n
def tkZ(c o:Nat)(m:Mz)(i:Nat):Mz:=iT [] (λr=>r) (λ_ r=>r) c o m i
theorem ua(d:α)(l:List α)(i j:Nat)(x:α)(h:i<l.length):nth d (l.set i x) j=if j=i then x else nth d l j:=by
 simp only[nth,Z6,List.getElem?_set];by_cases e:i=j
 .grind
 .rw[if_neg e,if_neg (λg=>e g.symm)]
theorem UX(k:Int):∀(a b:LiQ)(j:Nat),a.length=b.length->nth 0 (rZ k a b) j=nth 0 a j-k*nth 0 b j
 |[],[],j,_=>by simp[rZ,nth]
 |x::a,y::b,0,_=>by rfl
 | x::a,y::b,j+1,h=>by
  grind[rZ,nth]
 |[],_::_,_,h=>by simp at h
 |_::_,[],_,h=>by simp at h
theorem Qe{c:Nat}(hl:Ln n m)(hi:i<m.length)(ho:o<m.length)(k j:Nat):eZ (tkZ c o m i) k j=if k=i then eZ m i j-(eZ m i c).fdiv (eZ m o c)*eZ m o j else eZ m k j:=by
 unfold eZ tkZ iT;rw[ua _ _ _ _ _ hi];split
 .rename_i h;rw[UX _ _ _ _ ((hl i hi).trans (hl o ho).symm)];rfl
 .rfl
theorem adu(hl:Ln n m)(hx:x.length=n):Ln n (m.set i x):=λj hj=>by
 rw[Yx]at hj;by_cases h:i<m.length
 .rw[ua _ _ _ _ _ h];split
  .exact hx
  .exact hl j hj
 .rw[List.set_eq_of_length_le aa];exact hl j hj
theorem rQ(c o:Nat)(m:Mz)(i:Nat):(tkZ c o m i).length=m.length:=mp c o m i
theorem Jk{c:Nat}(hl:Ln n m)(hi:i<m.length)(ho:o<m.length):Ln n (tkZ c o m i):=
 adu hl (by simp[rZ,hl i hi,hl o ho])
def SpZ(m:Mz)(v:Ve):Prop:=Spn (m.map ve) v
theorem ia(hi:i<m.length):SpZ m (ve (nth [] m i)):=Spn.mem (Zw.2 ⟨_,by rw[nth,Z6,List.getElem?_eq_getElem hi];simp,rfl⟩)
theorem AX(h:∀i,i<m.length->SpZ m' (ve (nth [] m i)))(hv:SpZ m v):SpZ m' v:=by
 refine Spn.le (λg hg=>?_) hv;obtain⟨r,hr,rfl⟩:=Zw.1 hg;obtain⟨i,hi,rfl⟩:=Zj.1 hr;have:=h i hi
 rwa [nth,Z6,List.getElem?_eq_getElem hi]at this
def SpE(m m':Mz):Prop:=∀v,SpZ m v↔SpZ m' v
theorem OD{c:Nat}(hl:Ln n m)(hi:i<m.length)(ho:o<m.length):ve (nth [] (tkZ c o m i) i)=λj=>ve (nth [] m i) j-(eZ m i c).fdiv (eZ m o c)*ve (nth [] m o) j:=funext λj=>by
 have:=Qe (c:=c) hl hi ho i j;rw[if_pos rfl]at this;exact this
theorem qp{c:Nat}(hi:i<m.length){k:Nat}(h:k≠i):nth [] (tkZ c o m i) k=nth [] m k:=by grind[tkZ,iT,ua]
theorem Tm{c:Nat}(hl:Ln n m)(hi:i<m.length)(ho:o<m.length)(hne:i≠o):SpE m (tkZ c o m i):=λv=>by
 have hi':i<(tkZ c o m i).length:=by rw[rQ];exact hi
 have ho':o<(tkZ c o m i).length:=by rw[rQ];exact ho
 have eo:nth [] (tkZ c o m i) o=nth [] m o:=qp hi (λh=>hne h.symm);constructor
 .refine AX λk hk=>?_
  by_cases h:k=i
  .subst h;have a:=(ia hi').add ((ia ho').mul ((eZ m k c).fdiv (eZ m o c)))
   have e:(λj=>ve (nth [] (tkZ c o m k) k) j+(eZ m k c).fdiv (eZ m o c)*ve (nth [] (tkZ c o m k) o) j)=ve (nth [] m k):=funext λj=>by
    grind[OD]
   rw[e]at a;exact a
  .rw[<-qp (c:=c) (o:=o) hi h]
   grind[ia,rQ]
 .refine AX λk hk=>?_
  rw[rQ]at hk;by_cases h:k=i
  .subst h;rw[OD hl hi ho];exact(ia hi).sub ((ia ho).mul _)
  grind[qp,ia]
theorem SpE.refl(m:Mz):SpE m m:=λv=>Iff.rfl
theorem SpE.trans{a b c:Mz}(h:SpE a b)(h':SpE b c):SpE a c:=λv=>(h v).trans (h' v)
def swZ(m:Mz)(i j:Nat):Mz:=lz [] m i j
theorem uC(hi:i<m.length)(hj:j<m.length)(k:Nat):nth [] (swZ m i j) k=if k=j then nth [] m i else if k=i then nth [] m j else nth [] m k:=by
 unfold swZ lz;rw[ua _ _ _ _ _ (by grind)];split
 .rfl
 .rw[ua _ _ _ _ _ hi]
theorem wh(m:Mz)(i j:Nat):(swZ m i j).length=m.length:=gy m i j
theorem Jl(hl:Ln n m)(hi:i<m.length)(hj:j<m.length):Ln n (swZ m i j):=λk hk=>by
 rw[wh]at hk;rw[uC hi hj];split
 .exact hl i hi
 .split
  .exact hl j hj
  .exact hl k hk
theorem Tn(hi:i<m.length)(hj:j<m.length):SpE m (swZ m i j):=λv=>by
 have hi':i<(swZ m i j).length:=by rw[wh];exact hi
 have hj':j<(swZ m i j).length:=by rw[wh];exact hj
 constructor
 .refine AX λk hk=>?_
  by_cases h1:k=i
  .subst h1;have:=ia hj'
   grind[uC]
  .by_cases h2:k=j
   .subst h2;have:=ia hi'
    grind[uC]
   .have:=ia (m:=swZ m i j) (i:=k) (by grind[wh])
    grind[uC]
 grind[AX,wh,uC,ia]
def ngZ(c o:Nat)(m:Mz):Mz:=Bm [] (λr=>r) (λ_ r=>r) c o m
theorem zG(a:LiQ)(j:Nat):nth 0 (a.map (- ·)) j = - nth 0 a j:=by grind[nth]
theorem wH{c:Nat}(ho:o<m.length)(k:Nat):nth [] (ngZ c o m) k=if k=o∧eZ m o c<0 then(nth [] m o).map (- ·)else nth [] m k:=by
 show nth [] (if eZ m o c<0 then m.set o ((nth [] m o).map (- ·))else m) k=_
 by_cases h:eZ m o c<0
 .rw[if_pos h,ua _ _ _ _ _ ho];by_cases hk:k=o
  .rw[if_pos hk,if_pos ⟨hk,h⟩]
  .rw[if_neg hk,if_neg (λg=>hk g.1)]
 .rw[if_neg h,if_neg (λg=>h g.2)]
theorem Bl(c o:Nat)(m:Mz):(ngZ c o m).length=m.length:=EX c o m
theorem Vn{c:Nat}(hl:Ln n m)(ho:o<m.length):Ln n (ngZ c o m):=λk hk=>by
 rw[Bl]at hk;rw[wH ho];split
 .rw[List.length_map];exact hl o ho
 .exact hl k hk
theorem SL(a:LiQ):ve (a.map (- ·))=λi=>-1*ve a i:=funext λj=>by
 show nth 0 (a.map (- ·)) j = -1*nth 0 a j
 simp[zG]
theorem ZD{c:Nat}(ho:o<m.length):SpE m (ngZ c o m):=λv=>by
 have ho':o<(ngZ c o m).length:=by rw[Bl];exact ho
 constructor
 .refine AX λk hk=>?_
  by_cases h:k=o∧eZ m o c<0
  .have:=(ia ho').mul (-1);rw[wH ho,if_pos ⟨rfl,h.2⟩,SL]at this;obtain⟨rfl,_⟩:=h;have e:(λi=>-1*(-1*ve (nth [] m k) i))=ve (nth [] m k):=funext λi=>by omega
   rw[e]at this;exact this
  .have:=ia (m:=ngZ c o m) (i:=k) (by grind[Bl])
   grind[wH]
 .refine AX λk hk=>?_
  rw[Bl]at hk;rw[wH ho];split
  .rw[SL];exact(ia ho).mul _
  grind[ia]
def CH(c o r i:Nat)(b:Bool)(m:Mz):Bool×Mz:=kI [] (λr=>r) (λ_ r=>r) c o r i b m
def upZ(c o r i:Nat)(m:Mz):Mz:=upG [] (λr=>r) (λ_ r=>r) c o r i m
structure Im(n c o i r:Nat)(m m':Mz):Prop where
 len:m'.length=m.length
 ln:Ln n m'
 sp:SpE m m'
 out:∀k,(k<i∨i+r<=k)->nth [] m' k=nth [] m k
 inn:∀k,i<=k->k<i+r->∀j,eZ m' k j=eZ m k j-(eZ m k c).fdiv (eZ m o c)*eZ m o j
theorem Ef{c r:Nat}(hl:Ln n m)(ho:o<m.length)(hi:i+(r+1)<=m.length)(hoi:o<i∨i+(r+1)<=o)(h:Im n c o (i+1) r (tkZ c o m i) m'):Im n c o i (r+1) m m':=by
 have eo:nth [] (tkZ c o m i) o=nth [] m o:=qp aa aa;refine⟨h.len.trans (rQ ..),h.ln,(Tm hl aa ho aa).trans h.sp,λk hk=>?_,λk h1 h2 j=>?_⟩
 .rw[h.out k aa,qp aa aa]
 .by_cases hki:k=i
  .subst hki;have e1:nth [] m' k=nth [] (tkZ c o m k) k:=h.out k aa
   show nth 0 (nth [] m' k) j=_
   rw[e1];have:=Qe (c:=c) hl (by omega:k<m.length) ho k j
   grind
  .have e2:=h.inn k aa aa j;have e3:nth [] (tkZ c o m i) k=nth [] m k:=qp aa hki
   grind
theorem Iy{n c o:Nat}:∀(r i:Nat){m:Mz},Ln n m->o<m.length->i+r<=m.length->(o<i∨i+r<=o)->Im n c o i r m (upZ c o r i m)
 |0,i,m,hl,ho,hi,hoi=>⟨rfl,hl,SpE.refl m,λ_ _=>rfl,λk h1 h2=>by omega⟩
 | r+1,i,m,hl,ho,hi,hoi=>by
  have ih:=Iy (c:=c) r (i+1) (m:=tkZ c o m i) (Jk hl aa ho) (by rw[rQ];exact ho) (by grind[rQ]) aa;exact Ef hl ho hi hoi ih
theorem uB{n c o:Nat}:∀(r i:Nat)(b:Bool){m:Mz},Ln n m->o<m.length->i+r<=m.length->(o<i∨i+r<=o)->Im n c o i r m (CH c o r i b m).2∧((CH c o r i b m).1=false->b=false∧∀k,i<=k->k<i+r->(eZ m k c).fmod (eZ m o c)=0)
 |0,i,b,m,hl,ho,hi,hoi=>⟨⟨rfl,hl,SpE.refl m,λ_ _=>rfl,λk h1 h2=>by omega⟩,λh=>⟨h,λk h1 h2=>by omega⟩⟩
 | r+1,i,b,m,hl,ho,hi,hoi=>by
  have ih:=uB (c:=c) r (i+1) (b||decide ((eZ m i c).fmod (eZ m o c)≠0)) (m:=tkZ c o m i) (Jk hl aa ho) (by rw[rQ];exact ho) (by grind[rQ]) aa;refine⟨Ef hl ho hi hoi ih.1,λh=>?_⟩;obtain⟨h1,h2⟩:=ih.2 h;simp only[Bool.or_eq_false_iff,decide_eq_false_iff_not,Decidable.not_not]at h1;refine⟨h1.1,λk a1 a2=>?_⟩;by_cases hki:k=i
  .grind
  .have eo:nth [] (tkZ c o m i) o=nth [] m o:=qp aa aa;have ek:nth [] (tkZ c o m i) k=nth [] m k:=qp aa hki
   grind
def aZ(c:Nat)(m:Mz)(r i:Nat)(a:Int):Int:=atG [] (λr=>r) c m r i a
theorem DU(c:Nat)(m:Mz)(o:Nat):∀(r i:Nat)(a:Int),(a<0∧(∀k,o<=k->k<i->eZ m k c=0)∨(o:Int)<=a∧a<i∧eZ m a.toNat c≠0)->o<=i ->
  (aZ c m r i a<0∧(∀k,o<=k->k<i+r->eZ m k c=0)∨(o:Int)<=aZ c m r i a∧aZ c m r i a<(i+r:Nat)∧eZ m (aZ c m r i a).toNat c≠0)
 |0,i,a,h,hi=>by trivial
 | r+1,i,a,h,hi=>by
  have key:aZ c m (r+1) i a=aZ c m r (i+1) (if eZ m i c≠0∧(a<0∨(eZ m i c).natAbs<(eZ m a.toNat c).natAbs)then i else a):=rfl;rw[key];have e:i+1+r=i+(r+1):=aa;rw[<-e];refine DU c m o r (i+1) _ ?_ aa;split
  .rename_i g;exact .inr ⟨aa,aa,by grind⟩
  .rename_i g;rcases h with⟨h1,h2⟩|⟨h1,h2,h3⟩
   .refine .inl ⟨h1,λk a1 a2=>?_⟩;by_cases hk:k=i
    .grind
    .exact h2 k a1 aa
   .exact .inr ⟨h1,aa,h3⟩
structure Hm(n c o:Nat)(L:Nat->Nat)(m:Mz):Prop where
 le:o<=m.length
 ln:Ln n m
 lt:∀i,i<o->L i<c
 inc:∀i j,i<j->j<o->L i<L j
 pos:∀i,i<o->0<eZ m i (L i)
 low:∀i,i<o->∀j,j<L i->eZ m i j=0
 red:∀i j,i<j->j<o->0<=eZ m i (L j)∧eZ m i (L j)<eZ m j (L j)
 zer:∀k,o<=k->k<m.length->∀j,j<c->eZ m k j=0
theorem PT{c:Nat}(H:Hm n c o L m)(hl:m'.length=m.length)(hn:Ln n m')(h1:∀i,i<o->nth [] m' i=nth [] m i)(h2:∀k,o<=k->k<m.length->∀j,j<c->eZ m' k j=0):Hm n c o L m' where
 le:=by rw[hl];exact H.le
 ln:=hn
 lt:=H.lt
 inc:=H.inc
 pos:=λi hi=>by have:=H.pos i hi;grind
 low:=λi hi j hj=>by grind[Hm.low]
 red:=λi j hij hj=>by have:=H.red i j hij hj;simp only[eZ,h1 i aa,h1 j hj];omega
 zer:=λk a b j hj=>h2 k a aa j hj
theorem aaJ{c:Nat}(H:Hm n c o L m)(h:∀k,o<=k->k<m.length->eZ m k c=0):Hm n (c+1) o L m where
 le:=H.le
 ln:=H.ln
 lt:=λi hi=>by have:=H.lt i hi;omega
 inc:=H.inc
 pos:=H.pos
 low:=H.low
 red:=H.red
 zer:=λk a b j hj=>by
  by_cases e:j=c
  .grind
  .exact H.zer k a b j aa
theorem adC{c:Nat}(H:Hm n c o L m)(ho:o<m.length)(h0:eZ m o c≠0)(h1:∀k,o<k->k<m.length->eZ m k c=0):
  Hm n (c+1) (o+1) (λi=>if i=o then c else L i) (upZ c o o 0 (ngZ c o m))∧SpE m (upZ c o o 0 (ngZ c o m))∧(upZ c o o 0 (ngZ c o m)).length=m.length:=by
 obtain⟨m3,h3⟩:=nmQ (ngZ c o m);have l3:m3.length=m.length:=by rw[h3,Bl]
 have n3:Ln n m3:=by rw[h3];exact Vn H.ln ho
 have r3:∀k,k≠o->nth [] m3 k=nth [] m k:=λk hk=>by rw[h3,wH ho,if_neg (λg=>hk g.1)]
 have o3:∀j,eZ m3 o j=if eZ m o c<0 then-eZ m o j else eZ m o j:=λj=>by
  simp only[eZ,h3];rw[wH ho];by_cases g:eZ m o c<0
  .rw[if_pos ⟨rfl,g⟩,if_pos g,zG]
  .rw[if_neg (λx=>g x.2),if_neg g]
 have p3:0<eZ m3 o c:=by rw[o3];split<;>omega
 have z3:∀j,j<c->eZ m3 o j=0:=λj hj=>by grind[Hm.zer]
 have U:=Iy (c:=c) (o:=o) o 0 n3 aa aa (.inr aa);rw[<-h3];obtain⟨m4,h4⟩:=nmQ (upZ c o o 0 m3);rw[<-h4]at U ⊢
 have i4:∀i,i<o->∀j,eZ m4 i j=eZ m i j-(eZ m i c).fdiv (eZ m3 o c)*eZ m3 o j:=λi hi j=>by
  have:=U.inn i aa aa j;rw[this];simp only[eZ,r3 i aa]
 have j4:∀i,i<o->∀j,j<c->eZ m4 i j=eZ m i j:=λi hi j hj=>by grind
 have k4:∀k,o<=k->∀j,eZ m4 k j=eZ m3 k j:=λk hk j=>by simp only[eZ,U.out k (.inr aa)]
 have c4:∀i,i<o->0<=eZ m4 i c∧eZ m4 i c<eZ m3 o c:=λi hi=>by
  have e:eZ m4 i c=(eZ m i c).fmod (eZ m3 o c):=by
   rw[i4 i hi c,Int.fmod_def,Wm]
  simp_all[Int.fmod_nonneg_of_pos,Int.fmod_lt_of_pos]
 refine⟨⟨by rw[U.len];omega,U.ln,λi hi=>?_,λi j hij hj=>?_,λi hi=>?_,λi hi j hj=>?_,λi j hij hj=>?_,λk a b j hj=>?_⟩,?_,by rw[U.len,l3]⟩
 .show(if i=o then c else L i)<c+1
  split
  .omega
  .have:=H.lt i aa;omega
 .show(if i=o then c else L i)<(if j=o then c else L j)
  rw[if_neg aa];split
  .exact H.lt i aa
  .exact H.inc i j hij aa
 .show 0<eZ m4 i (if i=o then c else L i)
  by_cases e:i=o
  .grind
  .rw[if_neg e,j4 i aa _ (H.lt i aa)];exact H.pos i aa
 .have hj:j<(if i=o then c else L i):=hj;by_cases e:i=o
  .grind
  .rw[if_neg e]at hj;have:=H.lt i aa;rw[j4 i aa _ aa];exact H.low i aa j hj
 .show 0<=eZ m4 i (if j=o then c else L j)∧eZ m4 i (if j=o then c else L j)<eZ m4 j (if j=o then c else L j)
  by_cases e:j=o
  .rw[if_pos e,e,k4 o (Z8 _)];exact c4 i aa
  .rw[if_neg e,j4 i aa _ (H.lt j aa),j4 j aa _ (H.lt j aa)];exact H.red i j hij aa
 .rw[U.len,l3]at b;rw[k4 k aa];have e:eZ m3 k j=eZ m k j:=by simp only[eZ,r3 k aa]
  rw[e];by_cases g:j=c
  .subst g;exact h1 k aa b
  .exact H.zer k aa b j aa
 grind[ZD,SpE.trans,Im.sp]
def rdZ(B c f o:Nat)(m:Mz):Option (Nat×Mz):=nB [] (λr=>r) (λ_ r=>r) B c f o m
theorem Fu{n c B:Nat}:∀(f:Nat){o:Nat}{L:Nat->Nat}{m m':Mz}{o':Nat},Hm n c o L m->o<m.length->rdZ B c f o m=some (o',m')->(∃L',Hm n (c+1) o' L' m')∧SpE m m'∧m'.length=m.length
 |0,o,L,m,m',o',H,ho,h=>by cases h
 | f+1,o,L,m,m',o',H,ho,h=>by
  have key:rdZ B c (f+1) o m=if(m.all λa=>bdZ B a)=true then
   (if aZ c m (m.length-o) o (-1)<0 then some (o,m)else
    if(CH c o (m.length-(o+1)) (o+1) false (swZ m o (aZ c m (m.length-o) o (-1)).toNat)).1=true then rdZ B c f o (CH c o (m.length-(o+1)) (o+1) false (swZ m o (aZ c m (m.length-o) o (-1)).toNat)).2
    else some (o+1,upZ c o o 0 (ngZ c o (CH c o (m.length-(o+1)) (o+1) false (swZ m o (aZ c m (m.length-o) o (-1)).toNat)).2)))else none:=rfl
  rw[key]at h;have A:=DU c m o (m.length-o) o (-1) (.inl ⟨aa,λk a b=>by omega⟩) (Z8 _);obtain⟨a,ha⟩:=nmQ (aZ c m (m.length-o) o (-1));rw[<-ha]at A h;split at h
  case isFalse=>cases h
  split at h
  .rename_i g;cases h;rcases A with⟨_,A⟩|⟨A,_⟩
   .exact⟨⟨L,aaJ H λk h1 h2=>A k h1 aa⟩,SpE.refl _,rfl⟩
   .omega
  .rename_i g;rcases A with⟨A,_⟩|⟨A1,A2,A3⟩
   .omega
   have hi:a.toNat<m.length:=aa;obtain⟨m1,h1⟩:=nmQ (swZ m o a.toNat);have l1:m1.length=m.length:=by rw[h1,wh]
   have n1:Ln n m1:=by rw[h1];exact Jl H.ln ho hi
   have s1:SpE m m1:=by rw[h1];exact Tn ho hi
   have e1:∀k,nth [] m1 k=if k=a.toNat then nth [] m o else if k=o then nth [] m a.toNat else nth [] m k:=λk=>by grind[uC]
   have H1:Hm n c o L m1:=PT H l1 n1 (λi hi'=>by rw[e1,if_neg aa,if_neg aa]) (λk a1 a2 j hj=>by
    simp only[eZ,e1];split
    .grind[Hm.zer]
    .split
     .exact H.zer a.toNat aa hi j hj
     grind[Hm.zer])
   have p1:eZ m1 o c≠0:=by
    simp only[eZ,e1];split
    .grind
    .trivial
   rw[<-h1]at h;have S:=uB (n:=n) (c:=c) (o:=o) (m.length-(o+1)) (o+1) false n1 aa aa (.inl aa);obtain⟨s,hs⟩:=nmQ (CH c o (m.length-(o+1)) (o+1) false m1);rw[<-hs]at S h;obtain⟨S1,S2⟩:=S;have l2:s.2.length=m.length:=by rw[S1.len,l1]
   have eo:nth [] s.2 o=nth [] m1 o:=S1.out o (.inl aa)
   have H2:Hm n c o L s.2:=PT H1 S1.len S1.ln (λi hi'=>S1.out i (.inl aa)) (λk a1 a2 j hj=>by
    by_cases hk:k=o
    .subst hk;simp only[eZ,eo];exact H1.zer k (Z8 _) aa j hj
    .rw[S1.inn k aa aa j,H1.zer k a1 a2 j hj,H1.zer o (Z8 _) aa j hj];simp)
   split at h
   .have ih:=Fu f H2 aa h;exact⟨ih.1,(s1.trans S1.sp).trans ih.2.1,by rw[ih.2.2,l2]⟩
   .rename_i gs;cases h;have z:=S2 (by grind)
    have E:=adC (c:=c) H2 aa (by grind) (λk a1 a2=>by
     rw[S1.inn k aa aa c];have:=z.2 k aa aa;rw[Int.fmod_def,Wm]at this;omega)
    exact⟨⟨_,E.1⟩,(s1.trans S1.sp).trans E.2.1,by rw[E.2.2,l2]⟩
def clZ(B f r c o:Nat)(m:Mz):Option (Nat×Mz):=pj [] (λr=>r) (λ_ r=>r) B f r c o m
theorem PV{n B f:Nat}:∀(r:Nat){c o:Nat}{L:Nat->Nat}{m m':Mz}{o':Nat},Hm n c o L m->clZ B f r c o m=some (o',m')->(∃L',Hm n (c+r) o' L' m')∧SpE m m'∧m'.length=m.length
 | 0,c,o,L,m,m',o',H,h=>by
  cases h
  grind[SpE.refl]
 | r+1,c,o,L,m,m',o',H,h=>by
  have h2:pj [] (λr=>r) (λ_ r=>r) B f (r+1) c o m=some (o',m'):=h;simp only[pj]at h2;split at h2
  .rename_i ho;split at h2
   .rename_i o1 m1 hr;obtain⟨⟨L1,H1⟩,s1,l1⟩:=Fu f H ho hr;obtain⟨⟨L2,H2⟩,s2,l2⟩:=PV r H1 h2;exact⟨⟨L2,by rw[show c+(r+1)=c+1+r by omega];exact H2⟩,s1.trans s2,by rw[l2,l1]⟩
   trivial
  .rename_i ho;cases h2;have e:∀k,o<=k->k<m.length->False:=λk a b=>by omega
   exact⟨⟨L,⟨H.le,H.ln,λi hi=>by have:=H.lt i hi;omega,H.inc,H.pos,H.low,H.red,λk a b=>absurd (e k a b) id⟩⟩,SpE.refl _,rfl⟩
theorem DF{B f columns:Nat}(hl:Ln n m)(h:qV B f columns m=some (o,m')):(∃L,Hm n columns o L m')∧SpE m m'∧m'.length=m.length:=by
 have H:Hm n 0 0 (λ_=>0) m:=⟨aa,hl,λi hi=>by omega,λi j h1 h2=>by omega,λi hi=>by omega,λi hi=>by omega,λi j h1 h2=>by omega,λk a b j hj=>by omega⟩;have:=PV (n:=n) (B:=B) (f:=f) columns H h
 grind
def ldZ(L:Nat->Nat)(m:Mz):Nat->Nat->List (Nat×Ve)
 |0,_=>[]
 |r+1,i=>(L i,ve (nth [] m i))::ldZ L m r (i+1)
theorem uO{L:Nat->Nat}{m:Mz}:∀{r i:Nat} {x},x∈ldZ L m r i->∃k,i<=k∧k<i+r∧x=(L k,ve (nth [] m k))
 |0,i,x,h=>by trivial
 | r+1,i,x,h=>by
  simp only[ldZ,Zu]at h;rcases h with rfl|h
  .exact⟨i,aa,aa,rfl⟩
  .obtain⟨k,a,b,e⟩:=uO h;exact⟨k,aa,aa,e⟩
theorem tE{n c o:Nat}{L:Nat->Nat}{m:Mz}(H:Hm n c o L m):∀(r i b:Nat),i+r=o->(i<o->b<=L i)->Hnf b (ldZ L m r i)
 |0,i,b,e,h=>trivial
 | r+1,i,b,e,h=>by
  refine⟨⟨h aa,H.pos i aa,λj hj=>H.low i aa j hj⟩,λx hx=>?_,tE H r (i+1) (L i+1) aa (λhi=>by have:=H.inc i (i+1) aa hi;omega)⟩;obtain⟨k,a1,a2,rfl⟩:=uO hx;exact H.red i k aa aa
theorem acz{k c:Nat}(H:Hm n c o L m)(hc:n<=c)(h1:o<=k)(h2:k<m.length):ve (nth [] m k)=λ_=>0:=funext λj=>by
 by_cases h:j<c
 .exact H.zer k h1 h2 j h
 .show nth 0 (nth [] m k) j=0
  have:=H.ln k h2;rw[nth,Z6,List.getElem?_eq_none aa];rfl
theorem qq{c:Nat}(H:Hm n c o L m)(hc:n<=c)(v:Ve):Spn (vs (ldZ L m o 0)) v↔SpZ m v:=by
 have key:∀r i k,i<=k->k<i+r->ve (nth [] m k)∈vs (ldZ L m r i):=by
  intro r
  induction r with
  |zero=>omega
  | succ r ih=>
   intro i k a b;simp only[vs,ldZ,Zv,Zu];by_cases e:k=i
   .exact .inl (by rw[e])
   .exact .inr (ih (i+1) k aa aa)
 constructor
 .intro h;refine Spn.le (λg hg=>?_) h;obtain⟨x,hx,rfl⟩:=Zw.1 hg;obtain⟨k,a1,a2,rfl⟩:=uO hx;exact ia (by have:=H.le;omega)
 .intro h;refine Spn.le (λg hg=>?_) h;obtain⟨r,hr,rfl⟩:=Zw.1 hg;obtain⟨k,hk,rfl⟩:=Zj.1 hr;have e:m[k]=nth [] m k:=by rw[nth,Z6,List.getElem?_eq_getElem hk];rfl
  rw[e];by_cases hko:k<o
  .exact Spn.mem (key o 0 k aa aa)
  .rw[acz H hc aa hk];exact Spn.zero _
theorem acA{a b:LiQ}(hl:a.length=b.length)(h:ve a=ve b):a=b:=by
 refine W0 hl λi h1 h2=>?_
 have:=congrFun h i
 grind[ve,nth]
theorem xn(L:Nat->Nat)(m:Mz):∀r i,(ldZ L m r i).length=r
 |0,_=>rfl
 |r+1,i=>by simp[ldZ,xn L m r (i+1)]
theorem PK{L L':Nat->Nat}{m m':Mz}:∀{r i:Nat},ldZ L m r i=ldZ L' m' r i->∀k,i<=k->k<i+r->ve (nth [] m k)=ve (nth [] m' k)
 |0,i,_,k,a,b=>by omega
 | r+1,i,h,k,a,b=>by
  simp only[ldZ,List.cons.injEq,Z5]at h;by_cases e:k=i
  .grind
  .exact PK h.2 k aa aa
def dtV:Nat->Ve->Ve->Int
 |0,_,_=>0
 |n+1,a,b=>dtV n a b+a n*b n
theorem xt(a u v:Ve):∀n,dtV n a (λi=>u i+v i)=dtV n a u+dtV n a v
 |0=>rfl
 |n+1=>by simp only[dtV,xt a u v n];grind
theorem u9(a u:Ve)(k:Int):∀n,dtV n a (λi=>k*u i)=k*dtV n a u
 |0=>by simp[dtV]
 |n+1=>by simp only[dtV,u9 a u k n];grind
theorem qF(a:Ve):∀n,dtV n a (λ_=>0)=0
 |0=>rfl
 |n+1=>by simp[dtV,qF a n]
theorem qG(a b:Ve):∀n,dtV n a b=dtV n b a
 |0=>rfl
 |n+1=>by simp only[dtV,qG a b n];grind
def Krn(n:Nat)(S:Ve->Prop)(v:Ve):Prop:=(∀u,S u->dtV n u v=0)∧∀j,n<=j->v j=0
theorem Fe{S T:Ve->Prop}(h:∀u,S u->T u)(hv:Krn n T v):Krn n S v:=⟨λu hu=>hv.1 u (h u hu),hv.2⟩
theorem RN{S:Ve->Prop}(hS:∀u,S u->∀j,n<=j->u j=0)(v:Ve):Krn n (Krn n (Krn n S)) v↔Krn n S v:=by
 constructor
 .exact λh=>Fe (λu hu=>⟨λw hw=>by rw[qG];exact hw.1 u hu,hS u hu⟩) h
 .exact λh=>⟨λu hu=>by rw[qG];exact hu.1 v h,h.2⟩
theorem Aq:∀{m:List Ve},(∀g∈m,dtV n g v=0)->∀{u},Spn m u->dtV n u v=0
 | m,h,u,⟨ks,e⟩=>by
  subst e;rw[qG]
  induction m generalizing ks with
  |nil=>cases ks<;>exact qF v n
  | cons g m ih=>
   cases ks with
   |nil=>exact qF v n
   | cons k ks=>
    have e:cmb (k::ks) (g::m)=λi=>(λi=>k*g i) i+cmb ks m i:=rfl
    rw[e,xt,u9,ih (λx hx=>h x (by simp[hx])) ks,qG v g,h g ac];simp
theorem tN(n:Nat)(m:Mz):(lu n m).length=n:=by simp[lu]
theorem Kc{c:Nat}(hc:c<n):nth [] (lu n m) c=m.map (λr=>nth 0 r c)++(List.replicate n (0:Int)).set c 1:=by rw[nth,Z6,lu,List.getElem?_map,List.getElem?_range hc];rfl
theorem yZ{c:Nat}(hc:c<n)(i:Nat):ve (nth [] (lu n m) c) i=if i<m.length then ve (nth [] m i) c else if i=m.length+c then 1 else 0:=by
 rw[Kc hc]
 show nth 0 _ i=_
 by_cases h:i<m.length
 .rw[if_pos h,nth,Z6,List.getElem?_append_left (by grind),List.getElem?_map,List.getElem?_eq_getElem h];have e:nth [] m i=m[i]:=by rw[nth,Z6,List.getElem?_eq_getElem h];rfl
  rw[e];rfl
 .rw[if_neg h,nth,Z6,List.getElem?_append_right (by grind),List.length_map,List.getElem?_set,Zd];by_cases e:i=m.length+c
  .rw[if_pos aa,if_pos hc,if_pos e];rfl
  .rw[if_neg aa,if_neg e,List.getElem?_replicate]
   grind
def Wid(n:Nat)(m:Mz)(v:Ve):Prop:=(∀i,i<m.length->v i=dtV n (ve (nth [] m i)) λc=>v (m.length+c))∧∀j,m.length+n<=j->v j=0
theorem Wid.add(hu:Wid n m u)(hv:Wid n m v):Wid n m λi=>u i+v i:=
 ⟨λi hi=>by
  show u i+v i=dtV n _ λc=>u (m.length+c)+v (m.length+c)
  rw[hu.1 i hi,hv.1 i hi,<-xt],λj hj=>by simp only[hu.2 j hj,hv.2 j hj];rfl⟩
theorem Wid.mul(k:Int)(hu:Wid n m u):Wid n m λi=>k*u i:=
 ⟨λi hi=>by
  show k*u i=dtV n _ λc=>k*u (m.length+c)
  rw[hu.1 i hi,<-u9],λj hj=>by simp only[hu.2 j hj];simp⟩
theorem Wid.zero(n:Nat)(m:Mz):Wid n m λ_=>0:=⟨λi hi=>(qF _ _).symm,λ_ _=>rfl⟩
theorem Ap(a:Ve)(c:Nat):∀n,dtV n a (λj=>if j=c then 1 else 0)=if c<n then a c else 0
 |0=>rfl
 | n+1=>by
  simp only[dtV,Ap a c n];by_cases h:n=c
  .grind
  .rw[if_neg h];by_cases g:c<n
   .rw[if_pos g,if_pos aa];simp
   .rw[if_neg g,if_neg aa];simp
theorem YU{c:Nat}(hc:c<n):Wid n m (ve (nth [] (lu n m) c)):=by
 refine⟨λi hi=>?_,λj hj=>?_⟩
 ·have e:(λx=>ve (nth [] (lu n m) c) (m.length+x))=λj=>if j=c then 1 else 0:=funext λx=>by
   rw[yZ hc,if_neg aa];by_cases g:x=c
   .rw[if_pos aa,if_pos g]
   .rw[if_neg aa,if_neg g]
  grind[Ap,yZ]
 .rw[yZ hc,if_neg aa,if_neg aa]
theorem acx(h:SpZ (lu n m) v):Wid n m v:=by
 obtain⟨ks,rfl⟩:=h
 have key:∀(l:List Ve),(∀g∈l,Wid n m g)->∀ks,Wid n m (cmb ks l):=by
  intro l
  induction l with
  |nil=>intro _ ks;cases ks<;>exact Wid.zero n m
  | cons g l ih=>
   intro hg ks;cases ks with
   |nil=>exact Wid.zero n m
   |cons k ks=>exact((hg g ac).mul k).add (ih (λx hx=>hg x (by grind)) ks)
 refine key _ (λg hg=>?_) ks;obtain⟨r,hr,rfl⟩:=Zw.1 hg;obtain⟨c,hc,rfl⟩:=Zj.1 hr;have hc':c<n:=by rw[tN]at hc;exact hc
 have e:(lu n m)[c]=nth [] (lu n m) c:=by rw[nth,Z6,List.getElem?_eq_getElem hc];rfl
 grind[YU]
theorem Kd{n:Nat}{m:Mz}(v:Ve):∀t,t<=n->∃s,SpZ (lu n m) s∧(∀i,i<m.length->s i=dtV t (ve (nth [] m i)) λc=>v (m.length+c))∧(∀c,c<t->s (m.length+c)=v (m.length+c))∧∀c,t<=c->s (m.length+c)=0
 |0,_=>⟨λ_=>0,Spn.zero _,λi hi=>rfl,λc hc=>by omega,λc hc=>rfl⟩
 | t+1,ht=>by
  obtain⟨s,h1,h2,h3,h4⟩:=Kd (n:=n) (m:=m) v t aa;have hr:SpZ (lu n m) (ve (nth [] (lu n m) t)):=ia (m:=lu n m) (i:=t) (by grind[tN]);have e1:=λi=>yZ (n:=n) (m:=m) (c:=t) aa i
  refine⟨λi=>s i+v (m.length+t)*ve (nth [] (lu n m) t) i,h1.add (hr.mul _),λi hi=>?_,λc hc=>?_,λc hc=>?_⟩
  .grind[dtV]
  .show s (m.length+c)+v (m.length+t)*ve (nth [] (lu n m) t) (m.length+c)=_
   rw[e1,if_neg aa];by_cases g:c=t
   .grind
   .rw[h3 c aa,if_neg aa];simp
  .show s (m.length+c)+v (m.length+t)*ve (nth [] (lu n m) t) (m.length+c)=_
   rw[e1,if_neg aa,h4 c aa,if_neg aa];simp
theorem acw(h:Wid n m v):SpZ (lu n m) v:=by
 obtain⟨s,h1,h2,h3,h4⟩:=Kd (n:=n) (m:=m) v n (Z8 _)
 have e:s=v:=funext λi=>by
  by_cases hi:i<m.length
  .rw[h2 i hi,h.1 i hi]
  .obtain⟨c,rfl⟩:∃c,i=m.length+c:=⟨i-m.length,aa⟩;by_cases hc:c<n
   .grind
   .rw[h4 c aa,h.2 _ aa]
 grind
theorem G1(v:Ve):SpZ (lu n m) v↔Wid n m v:=⟨acx,acw⟩
theorem yJ:∀{m:List (Nat×Ve)}{o:Nat},Hnf o m->∀(k:Nat){v:Ve},Spn (vs m) v->(∀j,j<k->v j=0)->Spn (vs (m.filter λx=>decide (k<=x.1))) v
 |[],o,H,k,v,hv,h0=>hv
 | (l,h)::m,o,H,k,v,hv,h0=>by
  by_cases g:k<=l
  ·have e:((l,h)::m).filter (λx=>decide (k<=x.1))=(l,h)::m:=List.filter_eq_self.2 λx hx=>by
    rcases Zu.1 hx with rfl|hx
    .simpa using g
    .have:=yI H.2.2 x hx;simp only[decide_eq_true_eq];omega
   rw[e];exact hv
  ·have e:((l,h)::m).filter (λx=>decide (k<=x.1))=m.filter (λx=>decide (k<=x.1)):=by
    rw[List.filter_cons_of_neg (by simpa using g)]
   rw[e];exact yJ H.2.2 k (zY H hv (h0 l aa)) h0
def BdE(E:Nat)(m:Mz):Prop:=∀i j,(eZ m i j).natAbs<=E
theorem BdE.mono(h:E<=E')(b:BdE E m):BdE E' m:=λi j=>Zy (b i j) h
theorem JE{a b:Int}(h:0<b):0<=a.fmod b∧a.fmod b<b:=⟨Int.fmod_nonneg_of_pos a h,Int.fmod_lt_of_pos a h⟩
theorem V3{a b:Int}(h:b<0):b<a.fmod b∧a.fmod b<=0:=by
 have:=JE (a:=-a) (b:=-b) aa
 simp_all
theorem V7{a b:Int}(h:b≠0):(a.fdiv b).natAbs<=a.natAbs:=by
 have key:∀(a b:Int),0<b->(a.fdiv b).natAbs<=a.natAbs:=λa b hb=>by
  have h1:=Int.mul_fdiv_add_fmod a b;have h2:=JE (a:=a) hb;generalize a.fdiv b=q at *;generalize a.fmod b=r at *;rcases Int.lt_trichotomy q 0 with hq|hq|hq
  .have h4:b*(-q)≥1*(-q):=Yb aa aa;have h5:b*(-q) = -(b*q):=Int.mul_neg ..;rcases Int.lt_trichotomy a 0 with ha|ha|ha
   .have h6:b*(-q-1)≥1*(-q-1):=Yb aa aa;have h7:b*(-q-1) = -(b*q)-b:=by rw[Int.mul_sub];omega
    omega
   .have h6:b*(-q)≥b*1:=Int.mul_le_mul_of_nonneg_left aa aa;omega
   .have h6:b*(-q)≥b*1:=Int.mul_le_mul_of_nonneg_left aa aa;omega
  .omega
  .have h4:b*q≥1*q:=Yb aa aa;omega
 rcases Int.lt_trichotomy b 0 with hb|hb|hb
 .have:=key (-a) (-b) aa
  simp_all
 .omega
 grind
theorem YB{B:Nat}(h:BdE E m)(hE:E<10^B):(m.all λa=>bdZ B a)=true:=by
 rw[Z1];intro r hr;obtain⟨i,hi,rfl⟩:=Zj.1 hr
 show(m[i].all λx=>decide (x.natAbs<10^B))=true
 rw[Z1];intro x hx;obtain⟨j,hj,rfl⟩:=Zj.1 hx;have:=h i j
 grind[nth]
theorem Eg{c r:Nat}{Q:Nat}(S:Im n c o i r m m')(h:BdE E m)(hq:∀k,i<=k->k<i+r->((eZ m k c).fdiv (eZ m o c)).natAbs<=Q):BdE (E*(1+Q)) m':=λk j=>by
 have hE:E<=E*(1+Q):=Za _ aa;by_cases hk:i<=k∧k<i+r
 .rw[S.inn k hk.1 hk.2 j];have h1:=Int.natAbs_sub_le (eZ m k j) ((eZ m k c).fdiv (eZ m o c)*eZ m o j);rw[Y9]at h1;have h2:=Zp (hq k hk.1 hk.2) (h o j);have h3:=h k j
  grind
 .have:eZ m' k j=eZ m k j:=by simp only[eZ,S.out k aa]
  rw[this];exact Zy (h k j) hE
theorem abQ{a:Nat}(ho:o<m.length)(ha:a<m.length)(h:BdE E m):BdE E (swZ m o a):=λk j=>by
 simp only[eZ,uC ho ha];split
 .exact h o j
 .split
  .exact h a j
  .exact h k j
theorem afk{c:Nat}(ho:o<m.length)(h:BdE E m):BdE E (ngZ c o m):=λk j=>by
 simp only[eZ,wH ho];split
 .rw[zG];have:=h o j
  grind
 .exact h k j
theorem YG(c:Nat)(m:Mz)(o:Nat):∀(r i:Nat)(a:Int),(0<=a->∀k,o<=k->k<i->eZ m k c≠0->(eZ m a.toNat c).natAbs<=(eZ m k c).natAbs)->(a<0->∀k,o<=k->k<i->eZ m k c=0)->o<=i ->
  0<=aZ c m r i a->∀k,o<=k->k<i+r->eZ m k c≠0->(eZ m (aZ c m r i a).toNat c).natAbs<=(eZ m k c).natAbs
 |0,i,a,h,_,hi=>by trivial
 | r+1,i,a,h,h0,hi=>by
  have key:aZ c m (r+1) i a=aZ c m r (i+1) (if eZ m i c≠0∧(a<0∨(eZ m i c).natAbs<(eZ m a.toNat c).natAbs)then i else a):=rfl;rw[key];have e:i+1+r=i+(r+1):=aa;rw[<-e];refine YG c m o r (i+1) _ ?_ ?_ aa
  .split
   .rename_i g;intro _ k a1 a2 hk;by_cases ek:k=i
    .grind
    .rcases g.2 with g2|g2
     .exact absurd (h0 g2 k a1 aa) hk
     .by_cases ha:0<=a
      .grind
      .exact absurd (h0 aa k a1 aa) hk
   .rename_i g;intro ha k a1 a2 hk;by_cases ek:k=i
    .grind
    .exact h ha k a1 aa hk
  .split
   .omega
   .rename_i g;intro ha k a1 a2;by_cases ek:k=i
    .grind
    .exact h0 ha k a1 aa
theorem yh{n c o:Nat}:∀(r i:Nat)(b:Bool){m:Mz},Ln n m->o<m.length->i+r<=m.length->(o<i∨i+r<=o)->(CH c o r i b m).1=true->b=true∨∃k,i<=k∧k<i+r∧(eZ m k c).fmod (eZ m o c)≠0
 |0,i,b,m,hl,ho,hi,hoi,h=>.inl h
 | r+1,i,b,m,hl,ho,hi,hoi,h=>by
  have ih:=yh (c:=c) r (i+1) (b||decide ((eZ m i c).fmod (eZ m o c)≠0)) (m:=tkZ c o m i) (Jk hl aa ho) (by grind[rQ]) (by grind[rQ]) aa h;rcases ih with ih|⟨k,a1,a2,a3⟩
  .grind
  .have eo:nth [] (tkZ c o m i) o=nth [] m o:=qp aa aa;have ek:nth [] (tkZ c o m i) k=nth [] m k:=qp aa aa;simp only[eZ,eo,ek]at a3;exact .inr ⟨k,aa,aa,a3⟩
theorem Df(B c f o:Nat)(m:Mz):rdZ B c (f+1) o m=if(m.all λa=>bdZ B a)=true then
   (if aZ c m (m.length-o) o (-1)<0 then some (o,m)else
    if(CH c o (m.length-(o+1)) (o+1) false (swZ m o (aZ c m (m.length-o) o (-1)).toNat)).1=true then rdZ B c f o (CH c o (m.length-(o+1)) (o+1) false (swZ m o (aZ c m (m.length-o) o (-1)).toNat)).2
    else some (o+1,upZ c o o 0 (ngZ c o (CH c o (m.length-(o+1)) (o+1) false (swZ m o (aZ c m (m.length-o) o (-1)).toNat)).2)))else none:=rfl
theorem IV{B c:Nat}:∀(f g:Nat){o:Nat}{m:Mz}{r:Nat×Mz},rdZ B c f o m=some r->f<=g->rdZ B c g o m=some r
 |0,g,o,m,r,h,_=>by cases h
 |f+1,0,o,m,r,h,hg=>by omega
 | f+1,g+1,o,m,r,h,hg=>by
  rw[Df]at h ⊢;split at h
  .rename_i h1;rw[if_pos h1];split at h
   .grind
   .rename_i h2;rw[if_neg h2];split at h
    .rename_i h3;rw[if_pos h3];exact IV f g h aa
    grind
  .cases h
theorem Wi{c:Nat}(hl:Ln n m)(ho:o<m.length)(h0:eZ m o c≠0)(h:BdE E m):BdE (2*E*E) (upZ c o o 0 (ngZ c o m)):=by
 have h1:=afk (c:=c) ho h;have l1:(ngZ c o m).length=m.length:=Bl c o m
 have h2:eZ (ngZ c o m) o c≠0:=by
  simp only[eZ,wH ho];split
  .grind[zG]
  .exact h0
 have hE:1<=E:=by have:=h o c;omega
 refine BdE.mono ?_ (Eg (Q:=E) (Iy (c:=c) o 0 (Vn hl ho) aa aa (.inr aa)) h1 (λk _ _=>Zy (V7 h2) (h1 k c)));rw[Zn,Ya,Nat.mul_assoc,Nat.two_mul];have:E*1<=E*E:=Z2 _ hE;omega
theorem acH{p:Nat}(h:p<=M):2*p*(M-p)<=M*M:=by
 obtain⟨d,rfl⟩:∃d,M=p+d:=⟨M-p,aa⟩
 grind
theorem ahl{p p':Nat}(h0:0<p)(h:p<=M)(h1:p'<=p)(h2:M/p=1->p'<=M-p):(1+M/p)*p*p'<=M*M:=by
 have hq:1<=M/p:=(X3 h0).2 aa;have hm:M/p*p<=M:=Wy M p;by_cases e:M/p=1
 .have:=h2 e;rw[e];exact Zy (Z2 _ this) (acH h)
 .generalize M/p=q at *
  have h3:1+q<=q*q:=by
   have:2*q<=q*q:=Zs _ aa;omega
  calc (1+q)*p*p'<=q*q*p*p:=Zp (Zs _ h3) h1
   _=(q*p)*(q*p):=by rw[Nat.mul_assoc q q p,Nat.mul_assoc q (q*p) p,Nat.mul_assoc q p p,Nat.mul_assoc q p (q*p),Y0 p q p]
   _<=M*M:=Zp hm hm
structure YP(n c o:Nat)(s:Int)(E M:Nat)(m:Mz):Prop where
 ln:Ln n m
 ho:o<m.length
 hs:s=1∨s = -1
 col:∀k,o<=k->k<m.length->0<=s*eZ m k c∧s*eZ m k c<=M
 bd:BdE E m
theorem ac3{B c W:Nat}(hW:W<10^B){s:Int}:∀(p:Nat){E M:Nat}{m:Mz},YP n c o s E M m->1<=E->(∃k,o<=k∧k<m.length∧eZ m k c≠0∧(eZ m k c).natAbs<=p)->2*E*(M*M)*p<=W ->
  ∃f o' m',rdZ B c f o m=some (o',m')∧BdE (2*W*W) m'∧o'=o+1:=by
 intro p
 induction p using Nat.strongRecOn with
 |ind p ih=>
 intro E M m S hE ⟨k0,k1,k2,k3,k4⟩ hw;have ho:=S.ho;have A:=DU c m o (m.length-o) o (-1) (.inl ⟨aa,λk a b=>by omega⟩) (Z8 _);have A2:=YG c m o (m.length-o) o (-1) (λh=>by omega) (λ_ k a b=>by omega) (Z8 _);obtain⟨a,ha⟩:=nmQ (aZ c m (m.length-o) o (-1));rw[<-ha]at A A2;rcases A with⟨_,A⟩|⟨a1,a2,a3⟩
 .exact absurd (A k0 k1 aa) k3
 have hi:a.toNat<m.length:=aa;have amin:=A2 aa;obtain⟨p0,hp0⟩:=nmQ ((eZ m a.toNat c).natAbs);have p0p:p0<=p:=by rw[hp0];exact Zy (amin k0 k1 aa k3) k4
 have p0pos:0<p0:=aa;have ca:=S.col a.toNat aa hi;have sp0:s*eZ m a.toNat c=p0:=by rcases S.hs with h|h<;>subst h<;>omega
 have p0M:p0<=M:=aa;obtain⟨m1,h1⟩:=nmQ (swZ m o a.toNat);have l1:m1.length=m.length:=by rw[h1,wh]
 have n1:Ln n m1:=by rw[h1];exact Jl S.ln ho hi
 have e1:∀k,nth [] m1 k=if k=a.toNat then nth [] m o else if k=o then nth [] m a.toNat else nth [] m k:=λk=>by grind[uC]
 have b1:BdE E m1:=by rw[h1];exact abQ ho hi S.bd
 have eo:eZ m1 o c=eZ m a.toNat c:=by
  simp only[eZ,e1];split
  .grind
  .rw[if_pos trivial]
 have any1:∀k,o<=k->k<m.length->∃k',o<=k'∧k'<m.length∧eZ m1 k c=eZ m k' c:=λk q1 q2=>by
  simp only[eZ,e1];split
  .grind
  .split
   .exact⟨a.toNat,aa,hi,rfl⟩
   grind
 obtain⟨Q,hQ⟩:=nmQ (M/p0)
 -- a row behind
 have row:∀k,o<=k->k<m.length->0<=(eZ m1 k c).fdiv (eZ m1 o c)∧((eZ m1 k c).fdiv (eZ m1 o c)).natAbs<=Q∧0<=s*(eZ m1 k c).fmod (eZ m1 o c)∧s*(eZ m1 k c).fmod (eZ m1 o c)<p0 ∧
   s*eZ m1 k c=p0*(eZ m1 k c).fdiv (eZ m1 o c)+s*(eZ m1 k c).fmod (eZ m1 o c)∧s*eZ m1 k c<=M:=λk q1 q2=>by
  obtain⟨k',r1,r2,r3⟩:=any1 k q1 q2;have c1:=S.col k' r1 r2;rw[<-r3]at c1;have d1:=Int.mul_fdiv_add_fmod (eZ m1 k c) (eZ m1 o c);have sp1:s*eZ m1 o c=p0:=by rw[eo];exact sp0
  have f1:0<=s*(eZ m1 k c).fmod (eZ m1 o c)∧s*(eZ m1 k c).fmod (eZ m1 o c)<p0:=by
   rcases S.hs with h|h
   .subst h;have:=JE (a:=eZ m1 k c) (b:=eZ m1 o c) aa;omega
   .subst h;have:=V3 (a:=eZ m1 k c) (b:=eZ m1 o c) aa;omega
  generalize(eZ m1 k c).fdiv (eZ m1 o c)=q at *;generalize(eZ m1 k c).fmod (eZ m1 o c)=r at *;have g1:s*eZ m1 k c=p0*q+s*r:=by rw[<-d1,Int.mul_add,<-Int.mul_assoc,sp1]
  have q0:0<=q:=by
   rcases Int.lt_or_le q 0 with hq|hq
   .have:(p0:Int)*q<=p0*(-1):=Int.mul_le_mul_of_nonneg_left aa aa;omega
   .exact hq
  refine⟨q0,?_,f1.1,f1.2,g1,c1.2⟩;rw[hQ,X3 p0pos]
  have:(q.natAbs*p0:Int)<=M:=by
   rw[Xm q0,Wm];omega
  omega
 have SW:=uB (n:=n) (c:=c) (o:=o) (m.length-(o+1)) (o+1) false n1 aa aa (.inl aa);have SR:=yh (n:=n) (c:=c) (o:=o) (m.length-(o+1)) (o+1) false n1 aa aa (.inl aa);obtain⟨s2,hs2⟩:=nmQ (CH c o (m.length-(o+1)) (o+1) false m1);rw[<-hs2]at SW SR;obtain⟨SW,_⟩:=SW
 have b2:BdE (E*(1+Q)) s2.2:=Eg SW b1 λk q1 q2=>(row k aa aa).2.1
 have l2:s2.2.length=m.length:=by rw[SW.len,l1]
 have eo2:eZ s2.2 o c=eZ m1 o c:=by simp only[eZ,SW.out o (.inl aa)]
 have M1:1<=M:=aa
 have hEW:E*(1+Q)<=W:=by
  refine Zy ?_ hw;have hQM:Q<=M:=by rw[hQ];exact Yy M p0
  have t1:M*1<=M*M:=Z2 _ M1;have t2:E*(1+Q)<=E*(2*(M*M)):=Z2 _ aa;have t3:E*(2*(M*M))*1<=E*(2*(M*M))*p:=Z2 _ aa;rw[Zq 2 E,Nat.mul_assoc E 2];omega
 have hE2:E<=E*(1+Q):=Za _ aa;have hall:=YB (B:=B) S.bd aa
 have step:∀f,rdZ B c (f+1) o m=if s2.1=true then rdZ B c f o s2.2 else some (o+1,upZ c o o 0 (ngZ c o s2.2)):=λf=>by
  rw[Df,if_pos hall,<-ha,if_neg aa,<-h1,<-hs2]
 cases hb:s2.1 with
 | false=>
  refine⟨1,_,_,by rw[step,hb];rfl,?_,rfl⟩;refine BdE.mono ?_ (Wi (c:=c) SW.ln aa aa b2);exact Zp (Z2 _ hEW) hEW
 | true=>
  rcases SR hb with h|⟨k,q1,q2,q3⟩
  .cases h
  obtain⟨r1,r2,r3,r4,r5,r6⟩:=row k aa aa;obtain⟨p',hp'⟩:=nmQ (((eZ m1 k c).fmod (eZ m1 o c)).natAbs);have sp':s*(eZ m1 k c).fmod (eZ m1 o c)=p':=by rcases S.hs with h|h<;>subst h<;>omega
  have p'lt:p'<p0:=aa
  have val:∀k,o<k->k<m.length->eZ s2.2 k c=(eZ m1 k c).fmod (eZ m1 o c):=λk a b=>by
   rw[SW.inn k aa aa c,Int.fmod_def,Wm]
  have S2:YP n c o s (E*(1+Q)) p0 s2.2:=⟨SW.ln,aa,S.hs,λk a b=>by
   by_cases hk:k=o
   .grind
   .rw[val k aa aa];have:=row k a aa;omega,b2⟩
  have hkey:(1+Q)*p0*p'<=M*M:=by
   rw[hQ];refine ahl p0pos p0M aa λe=>?_
   rw[<-hQ]at e;have nz:eZ m1 k c≠0:=λhz=>q3 (by rw[hz,Int.zero_fmod])
   obtain⟨k',t1,t2,t3⟩:=any1 k aa aa;have hm:=amin k' t1 aa aa;rw[<-t3,<-hp0]at hm
   have hx:s*eZ m1 k c=(eZ m1 k c).natAbs:=by
    have:0<=s*eZ m1 k c:=by
     have:=S.col k' t1 t2;rw[<-t3]at this;exact this.1
    rcases S.hs with h|h<;>subst h<;>omega
   generalize(eZ m1 k c).fdiv (eZ m1 o c)=q at *
   have q1:q=1:=by
    rcases Int.lt_or_le q 1 with h|h
    .grind
    .omega
   subst q1;omega
  obtain ⟨f,o',m',g1,g2,g3⟩:=ih p' aa S2 aa ⟨k,aa,aa,by rw[val k aa aa];exact q3,by rw[val k aa aa];omega⟩ (by
   refine Zy ?_ hw
   calc 2*(E*(1+Q))*(p0*p0)*p'=2*E*p0*((1+Q)*p0*p'):=by grind
    _<=2*E*p0*(M*M):=Z2 _ hkey
    _<=2*E*p*(M*M):=Zs _ (Z2 _ p0p)
    _=2*E*(M*M)*p:=by grind)
  exact⟨f+1,o',m',by rw[step,hb,if_pos rfl];exact g1,g2,g3⟩
theorem ND(E:Nat)(h:1<=E):∀k,1<=E^k:=λk=>Nat.one_le_pow k E h
theorem ac4{B c:Nat}(hl:Ln n m)(ho:o<m.length)(hE:1<=E)(hb:BdE E m)(hW:4*E^5<10^B):
  ∃f o' m',rdZ B c f o m=some (o',m')∧BdE (32*E^10) m'∧(o'=o+1∨o'=o∧m'=m):=by
 have A:=DU c m o (m.length-o) o (-1) (.inl ⟨aa,λk a b=>by omega⟩) (Z8 _);obtain⟨a,ha⟩:=nmQ (aZ c m (m.length-o) o (-1));rw[<-ha]at A;have e4:=ND E hE 4;have e9:=ND E hE 9;have t5:E*1<=E*E^4:=Z2 _ e4;have t10:E*1<=E*E^9:=Z2 _ e9;have p5:E^5=E*E^4:=by rw[Nat.pow_succ,Zq]
 have p10:E^10=E*E^9:=by rw[Nat.pow_succ,Zq]
 have hall:=YB (B:=B) hb aa;by_cases hneg:a<0
 .exact⟨1,o,m,by rw[Df,if_pos hall,<-ha,if_pos hneg],hb.mono aa,.inr ⟨rfl,rfl⟩⟩
 rcases A with⟨h,_⟩|⟨a1,a2,a3⟩
 .omega
 have hi:a.toNat<m.length:=aa;obtain⟨p0,hp0⟩:=nmQ ((eZ m a.toNat c).natAbs);have p0pos:0<p0:=aa;have p0E:p0<=E:=by rw[hp0];exact hb _ _
 obtain⟨m1,h1⟩:=nmQ (swZ m o a.toNat);have l1:m1.length=m.length:=by rw[h1,wh]
 have n1:Ln n m1:=by rw[h1];exact Jl hl ho hi
 have e1:∀k,nth [] m1 k=if k=a.toNat then nth [] m o else if k=o then nth [] m a.toNat else nth [] m k:=λk=>by grind[uC]
 have b1:BdE E m1:=by rw[h1];exact abQ ho hi hb
 have eo:eZ m1 o c=eZ m a.toNat c:=by
  simp only[eZ,e1];split
  .grind
  .rw[if_pos trivial]
 have SW:=uB (n:=n) (c:=c) (o:=o) (m.length-(o+1)) (o+1) false n1 aa aa (.inl aa);have SR:=yh (n:=n) (c:=c) (o:=o) (m.length-(o+1)) (o+1) false n1 aa aa (.inl aa);obtain⟨s2,hs2⟩:=nmQ (CH c o (m.length-(o+1)) (o+1) false m1);rw[<-hs2]at SW SR;obtain⟨SW,_⟩:=SW
 have b2:BdE (2*(E*E)) s2.2:=BdE.mono (by
  rw[Zn,Ya];have:E*1<=E*E:=Z2 _ hE;omega) (Eg (Q:=E) SW b1 λk q1 q2=>Zy (V7 aa) (b1 k c))
 have l2:s2.2.length=m.length:=by rw[SW.len,l1]
 have eo2:eZ s2.2 o c=eZ m1 o c:=by simp only[eZ,SW.out o (.inl aa)]
 have step:∀f,rdZ B c (f+1) o m=if s2.1=true then rdZ B c f o s2.2 else some (o+1,upZ c o o 0 (ngZ c o s2.2)):=λf=>by
  rw[Df,if_pos hall,<-ha,if_neg hneg,<-h1,<-hs2]
 have q4:E*E*(E*E)*1<=E*E*(E*E)*E^6:=Z2 _ (ND E hE 6);have q10:E*E*(E*E)*E^6=E^10:=by grind
 cases hbb:s2.1 with
 | false=>
  refine⟨1,_,_,by rw[step,hbb];rfl,?_,.inl rfl⟩;refine BdE.mono ?_ (Wi (c:=c) SW.ln aa aa b2);have:2*(2*(E*E))*(2*(E*E))=8*(E*E*(E*E)):=by grind
  omega
 | true=>
  rcases SR hbb with h|⟨k,q1,q2,q3⟩
  .cases h
  have val:∀k,o<k->k<m.length->eZ s2.2 k c=(eZ m1 k c).fmod (eZ m1 o c):=λk a b=>by
   rw[SW.inn k aa aa c,Int.fmod_def,Wm]
  obtain ⟨s,hs,sp0⟩:∃s:Int,(s=1∨s = -1)∧s*eZ m1 o c=p0:=by
   rw[eo];by_cases h:0<eZ m a.toNat c
   .exact⟨1,.inl rfl,aa⟩
   .exact⟨-1,.inr rfl,aa⟩
  have sg:∀k,0<=s*(eZ m1 k c).fmod (eZ m1 o c)∧s*(eZ m1 k c).fmod (eZ m1 o c)<p0:=λk=>by
   rcases hs with h|h
   .subst h;have:=JE (a:=eZ m1 k c) (b:=eZ m1 o c) aa;omega
   .subst h;have:=V3 (a:=eZ m1 k c) (b:=eZ m1 o c) aa;omega
  have S2:YP n c o s (2*(E*E)) p0 s2.2:=⟨SW.ln,aa,hs,λk a b=>by
   by_cases hk:k=o
   .grind
   .rw[val k aa aa]
    grind,b2⟩
  have e2:1<=E*E:=by have:1*1<=E*E:=Zp hE hE;omega
  obtain ⟨f,o',m',g1,g2,g3⟩:=ac3 (B:=B) (W:=4*E^5) hW p0 S2 aa ⟨k,aa,aa,by rw[val k aa aa];exact q3,by
   rw[val k aa aa]
   grind⟩ (by
   calc 2*(2*(E*E))*(p0*p0)*p0<=2*(2*(E*E))*(E*E)*E:=Zp (Z2 _ (Zp p0E p0E)) p0E
    _=4*E^5:=by grind)
  exact ⟨f+1,o',m',by grind,g2.mono (by
   have:2*(4*E^5)*(4*E^5)=32*E^10:=by grind
   omega),.inl g3⟩
def dgN:Nat->Nat->Nat
 |0,d=>d
 |t+1,d=>dgN t (10*d+2)
theorem WP:∀t d,d<=dgN t d
 |0,d=>Z8 _
 |t+1,d=>by have:=WP t (10*d+2);grind[dgN]
theorem Qq{n B:Nat}:∀(r:Nat){c o d:Nat}{L:Nat->Nat}{m:Mz},Hm n c o L m->BdE (10^d) m->dgN (m.length-o) d<=B->∃f0,∀f,f0<=f->∃o' m',clZ B f r c o m=some (o',m')
 |0,c,o,d,L,m,H,hb,hd=>⟨0,λf _=>⟨o,m,rfl⟩⟩
 | r+1,c,o,d,L,m,H,hb,hd=>by
  by_cases ho:o<m.length
  .have e1:1<=10^d:=Nat.one_le_pow _ _ aa;obtain⟨t,ht⟩:∃t,m.length-o=t+1:=⟨m.length-o-1,aa⟩;rw[ht]at hd;have hd2:dgN t (10*d+2)<=B:=hd;have:=WP t (10*d+2)
   have hW:4*(10^d)^5<10^B:=by
    rw[<-Nat.pow_mul];have h1:10^(d*5+1)<=10^B:=Zz aa aa;have h2:10^(d*5+1)=10^(d*5)*10:=Nat.pow_succ ..;have h3:1<=10^(d*5):=Nat.one_le_pow _ _ aa;omega
   obtain⟨f1,o1,m1,g1,g2,g3⟩:=ac4 (c:=c) H.ln ho e1 hb hW;obtain⟨⟨L1,H1⟩,s1,l1⟩:=Fu f1 H ho g1
   have hb1:BdE (10^(10*d+2)) m1:=g2.mono (by
    rw[<-Nat.pow_mul,Zq d 10,X8];omega)
   have hd1:∃d1,BdE (10^d1) m1∧dgN (m1.length-o1) d1<=B:=by
    rcases g3 with h|⟨h1,h2⟩
    .exact⟨_,hb1,by rw[l1,h,show m.length-(o+1)=t by omega];omega⟩
    .grind
   obtain⟨d1,b1,k1⟩:=hd1;obtain⟨f2,hf2⟩:=Qq r H1 b1 k1;refine⟨max f1 f2,λf hf=>?_⟩;obtain⟨o',m',h⟩:=hf2 f aa;refine⟨o',m',?_⟩
   show pj [] (λr=>r) (λ_ r=>r) B f (r+1) c o m=some (o',m')
   have hr:nB [] (λr=>r) (λ_ r=>r) B c f o m=some (o1,m1):=IV f1 f g1 aa;simp only[pj,if_pos ho,hr];exact h
  .refine⟨0,λf _=>⟨o,m,?_⟩⟩
   show pj [] (λr=>r) (λ_ r=>r) B f (r+1) c o m=some (o,m)
   grind[pj]
theorem BI(cols:Nat)(hl:Ln n m)(hm:m.length<=4)(hb:BdE (10^9) m):∃f0,∀f,f0<=f->∃o m',qV 100000 f cols m=some (o,m'):=by have H:Hm n 0 0 (λ_=>0) m:=⟨aa,hl,λi hi=>by omega,λi j h1 h2=>by omega,λi hi=>by omega,λi hi=>by omega,λi j h1 h2=>by omega,λk a b j hj=>by omega⟩;refine Qq (B:=100000) cols H hb ?_;have:m.length-0=0∨m.length-0=1∨m.length-0=2∨m.length-0=3∨m.length-0=4:=aa;rcases this with h|h|h|h|h<;>rw[h]<;>decide
theorem aaI(H:Hm n n m.length L m)(H':Hm n n m'.length L' m')(e:SpE m m'):m=m':=by
 have h:=Mb (tE H m.length 0 0 aa (λ_=>Zc _)) (tE H' m'.length 0 0 aa (λ_=>Zc _)) (λv=>by
  rw[qq H (Z8 _),qq H' (Z8 _)];exact e v)
 have eo:m.length=m'.length:=by
  have:=congrArg List.length h
  rwa [xn,xn]at this
 refine W0 eo λi h1 h2=>?_
 rw[<-eo]at h;have e1:m[i]=nth [] m i:=by rw[nth,Z6,List.getElem?_eq_getElem h1];rfl
 have e2:m'[i]=nth [] m' i:=by rw[nth,Z6,List.getElem?_eq_getElem h2];rfl
 rw[e1,e2];refine acA ?_ (PK h i aa aa);rw[H.ln i h1,H'.ln i h2]
theorem adi(d:α)(l:List α)(h:i<o):nth d (l.take o) i=nth d l i:=by grind[nth]
theorem z8(H:Hm n n o L m):(m.take o).length=o∧Hm n n o L (m.take o)∧SpE m (m.take o):=by
 have hl:(m.take o).length=o:=by rw[Zr];have:=H.le;omega
 have e:∀i,i<o->nth [] (m.take o) i=nth [] m i:=λi hi=>adi [] m hi
 have H2:Hm n n o L (m.take o):=
  ⟨aa,λi hi=>by rw[e i aa];exact H.ln i (by grind),H.lt,H.inc,λi hi=>by simp only[eZ,e i hi];exact H.pos i hi,λi hi j hj=>by grind[Hm.low],
   λi j h1 h2=>by simp only[eZ,e i aa,e j h2];exact H.red i j h1 h2,λk a b=>by omega⟩
 refine⟨hl,H2,λv=>?_⟩;have k1:=qq H (Z8 _) v;have k2:=qq H2 (Z8 _) v
 have k3:∀r i,i+r<=o->ldZ L (m.take o) r i=ldZ L m r i:=by
  intro r
  induction r with
  |zero=>intro i _;rfl
  |succ r ih=>intro i hi;simp only[ldZ,e i aa,ih (i+1) aa]
 grind
theorem I7(l:LiQ)(k j:Nat):nth 0 (l.drop k) j=nth 0 l (k+j):=by simp[nth]
theorem JZ(k:Nat)(r:LiQ):B5 k r=true↔(∃j,nth 0 r j≠0)∧∀j,j<k->nth 0 r j=0:=by
 unfold B5;cases h:r.findIdx? λz=>decide (z≠0)with
 | none=>
  simp only[Zh,false_iff];rintro⟨⟨j,hj⟩,_⟩;rw[List.findIdx?_eq_none_iff]at h;by_cases hl:j<r.length
  .grind[Xs,nth.eq_1]
  .rw[nth,Z6,List.getElem?_eq_none aa]at hj;trivial
 | some i=>
  rw[List.findIdx?_eq_some_iff_getElem]at h;obtain⟨hi,h1,h2⟩:=h;simp only[decide_eq_true_eq]at h1 h2 ⊢;have g1:nth 0 r i=r[i]:=by rw[nth,Z6,List.getElem?_eq_getElem hi];rfl
  constructor
  .intro hk;refine⟨⟨i,aa⟩,λj hj=>?_⟩;have hjl:j<r.length:=aa
   grind[nth.eq_1]
  .rintro⟨_,h3⟩;exact Decidable.byContradiction λhn=>h1 (by rw[<-g1];exact h3 i aa)
theorem Krn.add{S:Ve->Prop}(hu:Krn n S u)(hv:Krn n S v):Krn n S λi=>u i+v i:=
 ⟨λw hw=>by rw[xt,hu.1 w hw,hv.1 w hw];rfl,λj hj=>by show u j+v j=0;rw[hu.2 j hj,hv.2 j hj];rfl⟩
theorem Krn.mul{S:Ve->Prop}(k:Int)(hu:Krn n S u):Krn n S λi=>k*u i:=
 ⟨λw hw=>by rw[u9,hu.1 w hw,Int.mul_zero],λj hj=>by show k*u j=0;rw[hu.2 j hj,Int.mul_zero]⟩
theorem Krn.zero(n:Nat)(S:Ve->Prop):Krn n S λ_=>0:=⟨λw hw=>qF w n,λ_ _=>rfl⟩
theorem Krn.spn{S:Ve->Prop}:∀{l:List Ve},(∀g∈l,Krn n S g)->∀{v},Spn l v->Krn n S v:=λ{l} hl {v} hv=>by
 obtain⟨ks,rfl⟩:=hv
 induction l generalizing ks with
 |nil=>cases ks<;>exact Krn.zero n S
 | cons g l ih=>
  cases ks with
  |nil=>exact Krn.zero n S
  |cons k ks=>exact((hl g ac).mul k).add (ih (λx hx=>hl x (by grind)) ks)
theorem Hj(k:Nat):∀{l:List Ve}{v:Ve},Spn l v->Spn (l.map λg j=>g (k+j)) λj=>v (k+j):=λ{l v} hv=>by
 obtain⟨ks,rfl⟩:=hv;refine⟨ks,?_⟩
 induction l generalizing ks with
 |nil=>cases ks<;>rfl
 | cons g l ih=>
  cases ks with
  |nil=>rfl
  | cons k' ks=>
   grind[cmb]
def vW(k:Nat)(m:Mz):Mz:=(m.filter (B5 k)).map (List.drop k)
theorem Qw{k:Nat}(h:Ln (k+n) m):Ln n (vW k m):=by
 have:∀r∈vW k m,r.length=n:=λr hr=>by
  obtain⟨x,hx,rfl⟩:=Zw.1 hr;obtain⟨i,hi,rfl⟩:=Zj.1 (X6.1 hx).1;have:=h i hi
  grind[nth.eq_1]
 intro i hi
 grind[nth.eq_1]
theorem Iv(n:Nat)(m:Mz):Ln (m.length+n) (lu n m):=λi hi=>by
 grind[tN,Kc]
theorem XW{w:Mz}(H:Hm (m.length+n) (m.length+n) o L w)(e:SpE (lu n m) w)(v:Ve):SpZ (vW m.length (w.take o)) v↔Krn n (SpZ m) v:=by
 obtain⟨tl,H2,e2⟩:=z8 H;have sp:∀u,SpZ (w.take o) u↔Wid n m u:=λu=>(((e.trans e2) u).symm).trans (G1 u)
 constructor
 .refine λh=>Krn.spn (λg hg=>?_) h
  obtain⟨r,hr,rfl⟩:=Zw.1 hg;obtain⟨x,hx,rfl⟩:=Zw.1 hr;obtain⟨hx,hb⟩:=X6.1 hx;have hb:=((JZ _ _).1 hb).2;have hw:=(sp (ve x)).1 (Spn.mem (Zw.2 ⟨x,hx,rfl⟩));have ev:ve (x.drop m.length)=λc=>ve x (m.length+c):=funext λj=>I7 x m.length j
  rw[ev];refine⟨λu hu=>?_,λj hj=>hw.2 _ aa⟩;refine Aq (λg hg=>?_) hu;obtain⟨r,hr,rfl⟩:=Zw.1 hg;obtain⟨i,hi,rfl⟩:=Zj.1 hr;have e1:m[i]=nth [] m i:=by rw[nth,Z6,List.getElem?_eq_getElem hi];rfl
  rw[e1,<-hw.1 i hi];exact hb i hi
 .intro h
  let u:Ve:=λj=>if j<m.length then 0 else v (j-m.length)
  have hsh:(λj=>u (m.length+j))=v:=funext λj=>by
   grind
  have hw:Wid n m u:=by
   refine⟨λi hi=>?_,λj hj=>?_⟩
   .rw[hsh,h.1 _ (ia hi)]
    grind
   .show(if j<m.length then 0 else v (j-m.length))=0
    rw[if_neg aa];exact h.2 _ aa
  have h1:=(sp u).2 hw;rw[<-qq H2 (Z8 _)]at h1;have h2:=yJ (tE H2 o 0 0 aa (λ_=>Zc _)) m.length h1 (λj hj=>if_pos hj);have h3:=Hj m.length h2;rw[hsh]at h3;refine Spn.le (λg hg=>?_) h3;obtain⟨g',hg',rfl⟩:=Zw.1 hg;obtain⟨x,hx,rfl⟩:=Zw.1 hg';obtain⟨hx,hk⟩:=X6.1 hx;obtain⟨i,_,hi,rfl⟩:=uO hx
  have hk:m.length<=L i:=by simpa using hk
  have hi':i<(w.take o).length:=aa;refine Spn.mem (Zw.2 ⟨(nth [] (w.take o) i).drop m.length,?_,funext λj=>I7 _ _ _⟩);refine Zw.2 ⟨_,X6.2 ⟨?_,(JZ _ _).2 ⟨⟨L i,?_⟩,λj hj=>H2.low i aa j aa⟩⟩,rfl⟩
  .grind[nth.eq_1]
  .have:=H2.pos i aa
   grind
theorem adB(n:Nat):Hm n n 0 (λ_=>0) []:=
 have z:∀{i:Nat}{P:Prop},i<0->P:=λh=>absurd h (Nat.not_lt_zero _)
 ⟨Z8 _,λi hi=>z hi,λi hi=>z hi,λi j _ hj=>z hj,λi hi=>z hi,λi hi=>z hi,λi j _ hj=>z hj,λk _ hk=>z hk⟩
theorem H5{B f:Nat}{w:Mz}(hl:Ln n m)(h:qV B f n m=some (o,w)):(∃L,Hm n n (w.take o).length L (w.take o))∧SpE m (w.take o):=by
 obtain⟨⟨L,H⟩,e,_⟩:=DF hl h;obtain⟨tl,H2,e2⟩:=z8 H
 grind[SpE.trans]
theorem zS{B f:Nat}{z:Mz}(h:uT B f n m=some z):(∃L,Hm n n z.length L z)∧∀v,SpZ z v↔Krn n (SpZ m) v:=by
 unfold uT at h;split at h
 .rename_i o w hw;obtain⟨⟨L,H⟩,e,_⟩:=DF (Iv n m) hw;have bs:=XW H e;have ln:=Qw (z8 H).2.1.ln
  have hb:XX B f m.length n (w.take o)=if vW m.length (w.take o)=[]then some []else match qV B f n (vW m.length (w.take o))with
   |some (o,w)=>some (w.take o)
   |none=>none:=rfl
  rw[hb]at h;split at h
  .rename_i h0;cases h;rw[h0]at bs;exact⟨⟨λ_=>0,adB n⟩,bs⟩
  .split at h
   .rename_i o2 w2 hf;cases h;obtain⟨H3,e3⟩:=H5 ln hf;exact⟨H3,λv=>((e3 v).symm).trans (bs v)⟩
   .cases h
 .cases h
def dU:LnQ->Ve->Ve->Int
 |[],_,_=>0
 |i::us,e,x=>e i*x i+dU us e x
theorem Oe(a b:Int)(e f x:Ve):∀us,dU us (λi=>a*e i-b*f i) x=a*dU us e x-b*dU us f x
 |[]=>by simp[dU]
 |i::us=>by simp only[dU,Oe a b e f x us];grind
theorem WW(a:Int)(e x:Ve):∀us,dU us e (λi=>a*x i)=a*dU us e x
 |[]=>by simp[dU]
 |i::us=>by simp only[dU,WW a e x us];grind
theorem FX{e x y:Ve}:∀{us},(∀i∈us,x i=y i)->dU us e x=dU us e y
 |[],_=>rfl
 |i::us,h=>by simp only[dU,h i ac,FX (us:=us) λj hj=>h j (by grind)]
theorem AA{e x:Ve}:∀{us},(∀i∈us,e i*x i=0)->dU us e x=0
 |[],_=>rfl
 |i::us,h=>by simp only[dU,h i ac,AA (us:=us) λj hj=>h j (by grind)];rfl
theorem acf{e x:Ve}:∀{us},dU us e x≠0->∃i∈us,e i*x i≠0
 |[],h=>absurd rfl h
 | i::us,h=>by
  by_cases h1:e i*x i=0
  .simp only[dU,h1,Int.zero_add]at h;obtain⟨j,hj,h2⟩:=acf h
   grind
  .exact⟨i,ac,h1⟩
theorem qH{e x:Ve}{j:Nat}:∀{us:LnQ},j∈us->dU us e x=e j*x j+dU (us.erase j) e x
 | i::us,h=>by
  by_cases hi:i=j
  .subst hi;rw[List.erase_cons_head];rfl
  ·have hj:j∈us:=by
    rcases Zu.1 h with h|h
    .omega
    .exact h
   rw[List.erase_cons_tail (by grind)];simp only[dU,qH hj];omega
theorem WX{e x:Ve}{A S:Nat}:∀{us:LnQ},(∀i∈us,(e i).natAbs<=A)->(∀i∈us,(x i).natAbs<=S)->(dU us e x).natAbs<=us.length*(A*S)
 |[],_,_=>by simp[dU]
 | i::us,h1,h2=>by
  have ih:=WX (us:=us) (λj hj=>h1 j (by grind)) (λj hj=>h2 j (by grind));have a1:=Int.natAbs_add_le (e i*x i) (dU us e x);rw[Y9]at a1;have a2:=Zp (h1 i ac) (h2 i ac)
  grind[dU,Nat.add_mul]
def slB:Nat->Nat->Nat
 |0,_=>0
 |1,_=>1
 |u+2,A=>(u+1)*A*slB (u+1) (2*A*A)
theorem OW:∀(u:Nat){A:Nat},1<=A->1<=slB (u+1) A
 |0,A,h=>by simp[slB]
 | u+1,A,h=>by
  have h2:1*1<=A*A:=Zp h h;have h1:=OW u (A:=2*A*A) (by grind);have h3:1*1*1<=(u+1)*A*slB (u+1) (2*A*A):=Zp (Zp aa h) h1;trivial
theorem slv:∀(k:Nat)(us:LnQ),us.length=k->us.Nodup->∀(A:Nat),1<=A->∀(es:List Ve)(l x:Ve),(∀e∈es,∀i∈us,(e i).natAbs<=A)->(∀e∈es,dU us e x=0)->dU us l x≠0 ->
  ∃y:Ve,(∀e∈es,dU us e y=0)∧dU us l y≠0∧(∀i,(y i).natAbs<=slB us.length A)∧∀i,i ∉ us->y i=0
 | 0,us,hk,hn,A,hA,es,l,x,hb,h0,hl=>by
  rw[Yj.1 hk]at hl;trivial
 | k+1,us,hk,hn,A,hA,es,l,x,hb,h0,hl=>by
  by_cases all:∀e∈es,∀i∈us,e i=0
  .obtain⟨i,hi,h1⟩:=acf hl
   refine ⟨λt=>if t=i then 1 else 0,λe he=>AA λt ht=>by rw[all e he t ht,Int.zero_mul],?_,λt=>?_,λt ht=>by
    grind⟩
   .rw[qH hi,AA (us:=us.erase i)]
    .rw[if_pos rfl,Int.mul_one,Int.add_zero];exact λh=>h1 (by rw[h,Int.zero_mul])
    grind
   grind[OW]
  ·obtain ⟨e1,he1,j,hj,ha⟩:∃e1,e1∈es∧∃j,j∈us∧e1 j≠0:=by
    grind
   have hk2:(us.erase j).length=k:=by rw[List.length_erase_of_mem hj];omega
   have hn2:(us.erase j).Nodup:=hn.erase j;have hsub:∀i∈us.erase j,i∈us∧i≠j:=λi hi=>⟨(hn.mem_erase_iff.1 hi).2,(hn.mem_erase_iff.1 hi).1⟩
   have hA2:1*1<=A*A:=Zp hA hA
   have hred:∀e:Ve,dU (us.erase j) (λi=>e1 j*e i-e j*e1 i) x=e1 j*dU us e x-e j*dU us e1 x:=λe=>by
    rw[Oe,qH (e:=e) hj,qH (e:=e1) hj]
    grind
   obtain ⟨y,y1,y2,y3,y4⟩:=slv k (us.erase j) hk2 hn2 (2*A*A) (by grind) (es.map λe i=>e1 j*e i-e j*e1 i) (λi=>e1 j*l i-l j*e1 i) x (λe' he' i hi=>by
     obtain⟨e,he,rfl⟩:=Zw.1 he';obtain⟨hi,_⟩:=hsub i hi
     show(e1 j*e i-e j*e1 i).natAbs<=_
     have b1:=Int.natAbs_sub_le (e1 j*e i) (e j*e1 i);rw[Y9,Y9]at b1;have b2:=Zp (hb e1 he1 j hj) (hb e he i hi);have b3:=Zp (hb e he j hj) (hb e1 he1 i hi)
     grind) (λe' he'=>by
     grind) (by
     simp_all)
   have hval:∀e:Ve,dU us e (λt=>if t=j then -dU (us.erase j) e1 y else e1 j*y t)=dU (us.erase j) (λi=>e1 j*e i-e j*e1 i) y:=λe=>by
    rw[qH hj,if_pos rfl,Oe,FX (y:=λt=>e1 j*y t) (λt ht=>if_neg (hsub t ht).2),WW]
    grind
   refine⟨_,λe he=>(hval e).trans (y1 _ (Zw.2 ⟨e,he,rfl⟩)),by grind,λt=>?_,λt ht=>?_⟩
   .cases k with
    | zero=>
     rw[Yj.1 hk2]at y2;trivial
    | succ u=>
     rw[hk]
     show(if t=j then -dU (us.erase j) e1 y else e1 j*y t).natAbs<=(u+1)*A*slB (u+1) (2*A*A)
     rw[hk2]at y3;split
     .rw[Xz,Nat.mul_assoc];have:=WX (us:=us.erase j) (e:=e1) (x:=y) (λi hi=>hb e1 he1 i (hsub i hi).1) (λi _=>y3 i)
      grind
     .rw[Y9,Nat.mul_assoc];have b1:=Zp (hb e1 he1 j hj) (y3 t)
      grind
   grind
theorem El{x:Nat×Ve}{m:List (Nat×Ve)}(h:Spn (vs m) v):Spn (vs (x::m)) v:=
 Spn.le (λg hg=>Spn.mem (by grind[vs])) h
theorem Jy:∀{m:List (Nat×Ve)}{o:Nat},Hnf o m->∀(u:Ve),∃(D:Int)(s:Ve),D≠0∧Spn (vs m) s∧∀y∈m,D*u y.1-s y.1=0
 |[],o,H,u=>⟨1,λ_=>0,aa,Spn.zero _,λy hy=>by cases hy⟩
 | (l,h)::m,o,⟨⟨a,b,c⟩,d,r⟩,u=>by
  obtain⟨D,s,h1,h2,h3⟩:=Jy r (λi=>h l*u i-u l*h i);refine⟨D*h l,λi=>D*u l*h i+s i,Wt h1 aa,((Spn.mem (by simp[vs])).mul _).add (El h2),λy hy=>?_⟩;rcases Zu.1 hy with rfl|hy
  .have:s l=0:=rz r h2 l aa
   grind
  grind
theorem zZ:∀{m:List (Nat×Ve)}{o:Nat},Hnf o m->∀x∈m,∃v,Spn (vs m) v∧v x.1≠0∧(∀j,j<x.1->v j=0)∧∀y∈m,y.1≠x.1->v y.1=0
 | (l,h)::m,o,H,x,hx=>by
  have H':=H;obtain⟨⟨a,b,c⟩,d,r⟩:=H';rcases Zu.1 hx with rfl|hx
  .obtain⟨D,s,h1,h2,h3⟩:=Jy r h;have z:∀j,j<=l->s j=0:=λj hj=>rz r h2 j aa
   refine⟨λi=>D*h i-s i,((Spn.mem (by simp[vs])).mul D).sub (El h2),?_,λj hj=>?_,λy hy hne=>?_⟩
   .show D*h l-s l≠0
    rw[z l (Z8 _),Int.sub_zero];exact Wt h1 aa
   .show D*h j-s j=0
    rw[z j aa,c j hj];simp
   grind
  .obtain⟨v,v1,v2,v3,v4⟩:=zZ r x hx;have:=yI r x hx;refine⟨v,El v1,v2,v3,λy hy hne=>?_⟩;rcases Zu.1 hy with rfl|hy
   .exact v3 l aa
   grind
theorem PR:∀{m:List (Nat×Ve)}{o:Nat},Hnf o m->∀x∈m,∀z∈m,(x.2 z.1).natAbs<=(z.2 z.1).natAbs
 | (l,h)::m,o,⟨⟨a,b,c⟩,d,r⟩,x,hx,z,hz=>by
  rcases Zu.1 hx with rfl|hx
  .rcases Zu.1 hz with rfl|hz
   .omega
   grind
  .rcases Zu.1 hz with rfl|hz
   .have:x.2 l=0:=rz r (Spn.mem (Zw.2 ⟨x,hx,rfl⟩)) l aa
    grind
   .exact PR r x hx z hz
theorem XL{m:List (Nat×Ve)}{o S:Nat}(H:Hnf o m)(w:Nat->Ve)(hw:∀x∈m,Spn (vs m) (w x.1)∧w x.1 x.1≠0∧(∀y∈m,y.1≠x.1->w x.1 y.1=0)∧∀j,(w x.1 j).natAbs<=S) :
  ∀(J:List (Nat×Ve)),(∀x∈J,x∈m)->∀(c:Nat)(u:Ve),Spn (vs m) u->(∀y∈m,y ∉ J->u y.1=0)->(∀y∈J,(u y.1).natAbs<=c*(w y.1 y.1).natAbs)->∀j,(u j).natAbs<=c*(J.length*S)
 | [],_,c,u,hu,hz,_,j=>by
  rcases qE H hu with h|⟨x,hx,_,h,_⟩
  .grind
  .exact absurd (hz x hx ac) h
 | x::J,hJ,c,u,hu,hz,hb,j=>by
  obtain⟨w1,w2,w3,w4⟩:=hw x (hJ x ac)
  have ih:=XL H w hw J (λy hy=>hJ y (by grind)) (c*(w x.1 x.1).natAbs) (λi=>w x.1 x.1*u i-u x.1*w x.1 i) ((hu.mul _).sub (w1.mul _)) (λy hy hn=>by
   by_cases e:y.1=x.1
   .grind
   .show w x.1 x.1*u y.1-u x.1*w x.1 y.1=0
    rw [w3 y hy e,hz y hy (λh=>by
     rcases Zu.1 h with h|h
     .exact e (by rw[h])
     trivial)]
    simp) (λy hy=>by
   show(w x.1 x.1*u y.1-u x.1*w x.1 y.1).natAbs<=_
   by_cases e:y.1=x.1
   .rw[e,show w x.1 x.1*u x.1-u x.1*w x.1 x.1=0 by grind];simp
   .rw[w3 y (hJ y (by grind)) e,Int.mul_zero,Int.sub_zero,Y9];have:=Z2 (w x.1 x.1).natAbs (hb y (by grind))
    grind) j
  have h1:((w x.1 x.1)*u j).natAbs<=(w x.1 x.1*u j-u x.1*w x.1 j).natAbs+(u x.1*w x.1 j).natAbs:=by
   have:=Int.natAbs_add_le (w x.1 x.1*u j-u x.1*w x.1 j) (u x.1*w x.1 j)
   rwa [Int.sub_add_cancel]at this
  rw[Y9,Y9 (u x.1)]at h1;have h2:=Zp (hb x ac) (w4 j)
  have h3:(w x.1 x.1).natAbs*(u j).natAbs<=(w x.1 x.1).natAbs*(c*((x::J).length*S)):=by
   calc (w x.1 x.1).natAbs*(u j).natAbs<=c*(w x.1 x.1).natAbs*(J.length*S)+c*(w x.1 x.1).natAbs*S:=Zy h1 (Nat.add_le_add ih h2)
    _=(w x.1 x.1).natAbs*(c*((x::J).length*S)):=by grind
  exact Nat.le_of_mul_le_mul_left h3 (Int.natAbs_pos.2 w2)
theorem XM{m:List (Nat×Ve)}{S:Nat}(H:Hnf o m)(hw:∀x∈m,∃v,Spn (vs m) v∧v x.1≠0∧(∀y∈m,y.1≠x.1->v y.1=0)∧∀j,(v j).natAbs<=S):∀x∈m,∀j,(x.2 j).natAbs<=m.length*S:=by
 intro x hx j
 let P:Nat->Ve->Prop:=λl v=>Spn (vs m) v∧v l≠0∧(∀y∈m,y.1≠l->v y.1=0)∧∀j,(v j).natAbs<=S
 let w:Nat->Ve:=λl=>Classical.epsilon (P l)
 have hP:∀y∈m,P y.1 (w y.1):=λy hy=>Classical.epsilon_spec (hw y hy)
 have:=XL H w hP m (λy hy=>hy) 1 x.2 (Spn.mem (Zw.2 ⟨x,hx,rfl⟩)) (λy hy hn=>absurd hy hn) (λy hy=>by
  obtain⟨p1,p2,p3,p4⟩:=hP y hy;rcases qE H p1 with h|⟨z,hz,z1,z2,z3⟩
  .grind
  .have e:z.1=y.1:=Classical.byContradiction λhn=>z2 (p3 z hz hn)
   have h1:=PR H x hx z hz;rw[<-e,Wr];refine Zy h1 ?_;rw[<-e]at z2 z3;exact Wv aa (Int.natAbs_dvd_natAbs.2 z3)) j
 omega
end Go.Vm
