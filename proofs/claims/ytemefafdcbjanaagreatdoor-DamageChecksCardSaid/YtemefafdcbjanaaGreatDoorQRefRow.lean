/- Lemmas. -/
import Derived.Test.YtemefafdcbjanaaGreatDoorQWsY
set_option linter.unusedVariables false
set_option linter.unusedSimpArgs false
namespace Go.Vm
open Go Go.Am Go.Big
variable{h:Hp}{a:V}{r:LiQ}
variable{x q:Q}{s fs t:List Q}{e n j i:Nat}{ex fr:Bool}{α β:Type}{d:LuQ}{clr:LnQ}{cs:LwQ}
theorem OR(k:KL):∀(q q' p p':LiQ),p.length=p'.length->q.length=q'.length->(p++q).length<1000000000->(q=q'->k (.exit 0) [] [])->(q≠q'->k .ret [B false] []) ->
  lp (fe (CX Y) (lst di (p++q)) (lst di (p'++q')) (I (p++q).length)) [] [] [I p.length] [] k
 | []=>by
  intro q' p p' hp hq hN h0 h1;have:q'=[]:=Zq hq.symm;subst this;refine ai ?_;simp(disch:=try exact ac)[fe];exact h0 rfl
 | x::q=>by
  intro q' p p' hp hq hN h0 h1;cases q' with
  |nil=>simp at hq
  |cons y q'=>
  simp at hq hN;refine ai ?_;have hy:nth 0 (p'++y::q') p.length=y:=by rw[hp];simp
  have e1:ixV [] 1 (lst di (p'++y::q')) (.d (.int .i64 (p.length:Int)))=some (.dptr ((p'++y::q').map di) p.length):=t8 di _ [] rfl aG;have e2:=Ui (p'++y::q') [] (j:=p.length) aG;rw[hy]at e2;simp(disch:=try exact ac)[fe,e1,e2];by_cases h:x=y
  .subst h;simp(disch:=try exact ac);have:=OR k q q' (p++[x]) (p'++[x]) (by simp[hp]) hq aG (fun g=>h0 (by rw[g])) (fun g=>h1 (by simpa using g));simpa using this
  .simp(disch:=try exact ac)[h];exact h1 (by simp[h])
theorem vB{x y:LiQ}(hx:x.length<1000000000)(hy:y.length<1000000000):CP Y F.bz [lst di x,lst di y] (B (decide (x=y))):=by
 refine rj ?_;by_cases h:x.length=y.length
 .simp(disch:=try exact ac)[bz,h];rw[<-h];refine lo (OR _ x y [] [] rfl h (by simpa using hx) (fun g=>?_) (fun g=>?_))
  .simp(disch:=try exact ac);exact cx (by simp[g])
  .simp(disch:=try exact ac);exact cx (by simp[g])
 .simp(disch:=try exact ac)[bz,h];exact cx (by simp;intro e;exact h (by rw[e]))
theorem KM{α:Type}(f:α->LdQ){n:Nat}(hf:∀x,(f x).length=n)(x:α):∀(l:List α)(j:Nat),j<l.length->(l.flatMap f).take (j*n)++f x++(l.flatMap f).drop (j*n+n)=(l.set j x).flatMap f
 |[],j,h=>by simp at h
 | y::l,0,h=>by
  simp only[Wp,List.take_zero,List.nil_append,Zk,List.flatMap_cons,List.set_cons_zero];rw[W6 (hf y)]
 | y::l,j+1,h=>by
  have ih:=KM f hf x l j (by simpa using h);have e1:(j+1)*n=(f y).length+j*n:=by rw[hf,X7,Nat.add_comm]
  simp only[List.flatMap_cons,List.set_cons_succ];rw[<-ih,e1,X1,List.take_length_add_append,List.drop_length_add_append,List.append_assoc,List.append_assoc,List.append_assoc]
def tx(x:Q):Tx:=(itoa x.1,ah x.2)
def szV(s:List Q):V:=oQ aV (s.map tx)
theorem N0{z:Int}(h:ndg z.natAbs<=400):rd (itoa z)=some z:=by
 rw[aat,tw,yq];have hl:(ah z.natAbs).length=ndg z.natAbs:=bu _ _;have hc:=rI z.natAbs;have hh:=dU z.natAbs;simp only[qj,Z8,Y7,Xq,decide_eq_false_iff_not]at hc;obtain⟨⟨h1,h2⟩,h3⟩:=hc;have hne:=vz z.natAbs
 have hcond:¬((ah z.natAbs).headD 0=48∧(1<(ah z.natAbs).length∨decide (z<0)=true)):=by
  rintro⟨g1,g2⟩;have g3:¬1<(ah z.natAbs).length:=fun g=>by rcases h3 with h3|h3<;>contradiction
  rcases g2 with g2|g2
  .exact g3 g2
  .have g4:(ah z.natAbs).length=1:=by have:=kX z.natAbs;omega
   obtain⟨c,hc⟩:=List.length_eq_one_iff.1 g4;rw[hc]at g1;simp only[List.headD_cons]at g1;subst g1;have:=jR.1 hc;simp only[decide_eq_true_eq]at g2;omega
 rw[if_pos ⟨aa,hne,hcond,h2⟩,hh];by_cases hz:z<0
 .rw[if_pos (decide_eq_true hz)];congr 1;omega
 .rw[if_neg (by simpa using hz)];congr 1;omega
theorem S7(hx:okQ x)(hl:qL 30 x):rdF (tx x).1 (tx x).2=some x:=by
 unfold rdF tx;have h2:=N0 (z:=(x.2:Int)) (by rw[Int.natAbs_natCast];have:=hl.2;omega);rw[kv]at h2;rw[N0 (by have:=hl.1;omega)];simp only[h2];have h0:(0:Int)<x.2:=by have:=hx.1;omega
 rw[if_pos ⟨h0,by rw[Int.natAbs_natCast];exact hx.2⟩,Int.natAbs_natCast]
theorem RJ(hl:qL 30 x):sz4 (tx x)=true:=by unfold sz4 ve tx;simp only[tw];have h1:(ah x.1.natAbs).length=ndg x.1.natAbs:=bu _ _;have h2:(ah x.2).length=ndg x.2:=bu _ _;rw[h1,h2];have:=hl.1;have:=hl.2;simp;omega
def okS(s:List Q):Prop:=∀x∈s,okQ x∧qL 30 x
theorem G1:∀{s:List Q},okS s->Cw (s.map tx)=0
 |[],_=>rfl
 | x::s,h=>by
  obtain⟨h1,h2⟩:=h x ae;simp only[Z1,Cw];rw[S7 h1 h2,RJ h2,G1 fun y hy=>h y (by simp[hy])];rfl
theorem GY{K:Nat}(hl:qL K x):(tx x).1.length<=K+1∧(tx x).2.length<=K:=by
 unfold tx itoa;have h1:(ah x.1.natAbs).length=ndg x.1.natAbs:=bu _ _;have h2:(ah x.2).length=ndg x.2:=bu _ _;have:=hl.1;have:=hl.2;simp only;constructor
 .split
  .simp;omega
  .omega
 .omega
theorem QZ(hx:okQ x)(hl:qL 30 x):CP Y F.eE [.agg (qT x)] (I 0):=by obtain⟨l1,l2⟩:=GY hl;have:=wu (tx x).1 (tx x).2 aa aa;rw[S7 hx hl]at this;exact this
theorem PS(hl:qL 30 x):CP Y F.mR [.agg (qT x)] (B true):=by
 obtain⟨l1,l2⟩:=GY hl;have:=FU (tx x).1 (tx x).2 aa aa
 rwa [show(ve (tx x).1&&decide ((tx x).2.length<=30))=true from RJ hl]at this
theorem QY{p:LiQ}(hs:okS s)(hp:s.length<1000000):CP Y F.kW [lst di p,szV s] (I (if s.length=p.length then 0 else 5)):=by
 have:=Jk (p:=p) (s:=s.map tx) (fun x hx=>by
  obtain⟨y,hy,rfl⟩:=Zh.1 hx;obtain⟨l1,l2⟩:=GY (hs y hy).2;omega) aG
 unfold scB at this;rw[List.length_map,G1 hs]at this;exact this
theorem tW{z:Int}(h1 : -9223372036854775808<z)(h2:z<9223372036854775808):CP Y F.jB [I z] (.agg (qT (z,1))):=by refine ER ?_;simp only[qT,gU];simp[jB];refine cd (kr h1 h2) ?_;simp;exact lF rfl rfl
theorem ixR{h:Hp}{s:Nat}{l:List Tx}(hg:h[s]?=some (e,.data 2 (l.flatMap aV) ex fr))(hn:l.length=n){c:Nat}(hc:c<n)(k:IntKind):ixV h 2 (.ref s e 0 n n (n*2)) (.d (.int k (c:Int)))=some (.ptr s e (c*2) (n*2)):=by have hlen:=fv aV ba l;simp only[ixV,dI hg];rw[if_pos ⟨by rw[hlen,hn],aa,aa⟩];simp
theorem ldR{h:Hp}{s:Nat}{l:List Tx}(hg:h[s]?=some (e,.data 2 (l.flatMap aV) ex fr))(hn:l.length=n){c:Nat}(hc:c<n):ldA h 2 (.ptr s e (c*2) (n*2))=some (.agg [S (nth ([],[]) l c).1,S (nth ([],[]) l c).2]):=by have:=Ep aV ba ([],[]) l (j:=c) aa;simp only[ldA,dI hg];rw[if_pos (by rw[fv aV ba,hn]),this];rfl
theorem stR{h:Hp}{s:Nat}{l:List Tx}(hg:h[s]?=some (e,.data 2 (l.flatMap aV) ex false))(hn:l.length=n){c:Nat}(hc:c<n)(x:Tx):st h 2 (.ptr s e (c*2) (n*2)) (.agg [S x.1,S x.2])=some (h.set s (e,.data 2 ((l.set c x).flatMap aV) ex false)):=by
 have hfs:=KM aV ba x l c aa;have hlen:=fv aV ba l;have hle:c*2+2<=(l.flatMap aV).length:=by rw[hlen];omega
 rw[<-hfs];simp only[aV,st,sto,dI hg,if_true,List.length_cons,List.length_nil,ly,toD,norm,cw,true_and];rw[if_pos ⟨by rw[hlen,hn],hle⟩]
def dY:Tx:=([],[])
theorem S4(n:Nat):jm n [D.str [],D.str []]=(List.replicate n dY).flatMap aV:=by
 induction n with
 |zero=>rfl
 |succ n ih=>rw[List.replicate_succ,List.flatMap_cons,<-ih];rfl
theorem TQ{s n e:Nat}{b:Bk}{h:Hp}{k:kkQ}{u:PU k}(hs:h[s]?=some (e,b))(hn:n<1000000000)(hk:k (.ref s (e+1) 0 n n (n*2)) (h.set s (e+1,.data 2 ((List.replicate n dY).flatMap aV) true false))) :
  rh (mkS s 32 [.str [],.str []] h (I n) (I n)) k u:=by unfold rh mkS;simp only;rw[if_pos ⟨aa,Int.le_refl _,ae,aa,aa⟩];simp only[new,hs,Int.toNat_natCast,S4,List.length_cons,List.length_nil];have:=fv aV ba (List.replicate n dY);rw[Zb]at this;rw[this];exact hk
theorem NL{α:Type}(a b:α):∀(i r:Nat),(List.replicate i a++List.replicate (r+1) b).set i a=List.replicate (i+1) a++List.replicate r b
 |0,r=>by simp[List.replicate_succ]
 | i+1,r=>by
  rw[List.replicate_succ,List.cons_append,List.set_cons_succ,NL a b i r,<-List.cons_append,<-List.replicate_succ]
def zT:Tx:=tx (0,1)
def hz(h:Hp)(l:List Tx):Hp:=h++[(1,.data 2 (l.flatMap aV) true false)]
theorem DK(h:Hp)(l:List Tx):(hz h l)[h.length]?=some (1,.data 2 (l.flatMap aV) true false):=by simp[hz]
theorem MS(h:Hp)(l l':List Tx):(hz h l).set h.length (1,.data 2 (l'.flatMap aV) true false)=hz h l':=by simp[hz]
theorem FA{h:Hp}{n:Nat}(hn:n<1000000)(k:KL)(h0:Hp)(hh:h0.length=h.length+1):∀(r i:Nat),i+r=n->k (.exit 0) [] (hz h (List.replicate n zT)) ->
  lp (qC (CX Y) h.length (.ref h.length 1 0 n n (n*2)) (I n)) [] h0 [I i] (hz h (List.replicate i zT++List.replicate r dY)) k
 | 0,i,hi,hk=>by
  have h1:¬(i:Int)<(n:Int):=aa;have h2:i=n:=aa;subst h2;refine ai ?_;simp[qC,h1];exact hk
 | r+1,i,hi,hk=>by
  have h1:(i:Int)<(n:Int):=aa;have nb:=tW (z:=0) aa aa;have hl:(List.replicate i zT++List.replicate (r+1) dY).length=n:=by simp;omega
  have e1:=ixR (DK h (List.replicate i zT++List.replicate (r+1) dY)) hl (c:=i) aa .i64;have e2:=stR (DK h (List.replicate i zT++List.replicate (r+1) dY)) hl (c:=i) aa zT;rw[MS,NL]at e2;have hlen:(hz h (List.replicate (i+1) zT++List.replicate r dY)).length=h0.length:=by simp[hz,hh]
  refine ai ?_;simp[qC,h1];refine cd nb ?_;have e3:st (hz h (List.replicate i zT++List.replicate (r+1) dY)) 2 (V.ptr h.length 1 (i*2) (n*2)) (.agg (qT (0,1)))=some (hz h (List.replicate (i+1) zT++List.replicate r dY)):=e2;simp(disch:=try exact ac)[e1,e3,hlen];have:=FA hn k h0 hh r (i+1) aa hk;simpa using this
theorem VT{h:Hp}(hu:(h.all fun x=>aN h.length x.2)=true)(hn:n<1000000):CI Y F.pK [I n] h (.new 2 ((List.replicate n zT).flatMap aV) true n n) h:=by
 refine Jm ?_;have hl:aW (.ref h.length 1 0 n n (n*2))=some (I n):=rfl;simp[pK];refine TQ (e:=0) (b:=.none) ae aa ?_;have e0:(h++[(0,Bk.none)]).set h.length (0+1,.data 2 ((List.replicate n dY).flatMap aV) true false)=hz h (List.replicate 0 zT++List.replicate n dY):=by simp[hz]
 rw[e0];simp[hl];refine lo (FA hn _ _ (by simp[hz]) n 0 aa ?_);simp;have hfl:=fv aV ba (List.replicate n zT);rw[Zb]at hfl;refine⟨by simp[hz],?_,.inr (.inr (.inl ⟨h.length,1,n,n,2,(List.replicate n zT).flatMap aV,true,by rw[hfl],Z7 _,?_,rfl⟩))⟩
 .exact hu
 .simp[hz,aC]
theorem aar{h:Hp}{s:Nat}{l:List Tx}(hg:h[s]?=some (e,.data 2 (l.flatMap aV) ex fr))(hn:l.length=n):bg h (.ref s e 0 n n (n*2))=some (oQ aV l,h.set s (e,.data 2 (l.flatMap aV) ex true)):=by have hlen:=fv aV ba l;simp only[bg,toD,dI hg];rw[if_pos ⟨by rw[hlen,hn],Z7 _,by rw[hlen,hn];omega⟩];rw[Yo,Zz (by rw[hlen,hn];exact Z7 _)];subst hn;rfl
def YM(n:Nat):List Q:=(1,1)::List.replicate (n-1) (0,1)
theorem Qs(n:Nat)(l:LdQ)(H:Hp):fO 1 [nPQ] [(0,.d (.sl n l))] H=some ([.sl n l],H):=by simp[fO,jm,ly,toD]
theorem XP(n:Nat)(l:LdQ)(n':Nat)(l':LdQ)(H:Hp):fO 2 [nPQ] [(0,.d (.sl n l)),(1,.d (.sl n' l'))] H=some ([.sl n l,.sl n' l'],H):=by simp[fO,jm,ly,toD]
theorem Ow(x:Q)(H:Hp):fO 1 [D.str [],D.str []] [(0,.agg (qT x))] H=some (aV (tx x),H):=by simp[fO,jm,ly,toD,qT,aV,tx]
theorem adT(x y:Q)(H:Hp):fO 2 [D.str [],D.str []] [(0,.agg (qT x)),(1,.agg (qT y))] H=some (aV (tx x)++aV (tx y),H):=by simp[fO,jm,ly,toD,qT,aV,tx]
def smR(r:LiQ):Bool:=r.all fun x=>decide (-1000<=x)&&decide (x<=1000)
def EX(n:Nat):LLQ->Int
 |[]=>0
 |r::m=>if r.length≠n then 5 else if smR r=true then EX n m else 4
theorem aav{r:LiQ}(hN:r.length<1000000000000)(k:KL):∀(q a:LiQ),a++q=r->(smR q=true->k (.exit 2) [] [])->(smR q=false->k .ret [I 4] []) ->
  lp (mC (CX Y) (lst di r) (I r.length)) [] [] [I a.length] [] k
 | []=>by
  intro a ha h0 h1;subst ha;refine ai ?_;simp[mC];exact h0 rfl
 | x::q=>by
  intro a ha h0 h1;subst ha;simp at hN;refine ai ?_;simp(disch:=try exact ac)[mC];by_cases h:(1000:Int)<x
  .simp[h];exact h1 (by simp[smR];omega)
  .by_cases h2:x < -1000
   .simp(disch:=try exact ac)[h,h2];exact h1 (by simp[smR];omega)
   .simp(disch:=try exact ac)[h,h2];have:=aav (r:=a++x::q) aG k q (a++[x]) ae (fun g=>h0 ?_) (fun g=>h1 ?_)
    .simpa using this
    .simp[smR]at g ⊢;exact⟨⟨aa,aa⟩,g⟩
    .simp only[smR,List.all_cons,Xq]at g ⊢;exact .inr g
theorem Oj{p:LiQ}(hp:p.length<1000000000000)(k:KL):∀(q a:LLQ),(a++q).length<1000000000 ->
  (EX p.length q=0->k (.exit 0) [] [])->(EX p.length q≠0->k .ret [I (EX p.length q)] []) ->
  lp (jI (CX Y) (lst di p) (mat (a++q)) (I (a++q).length)) [] [] [I a.length] [] k
 | []=>by
  intro a hN h0 h1;refine ai ?_;simp[jI];exact h0 rfl
 | r::q=>by
  intro a hN h0 h1;simp at hN;refine ai ?_;simp only[EX]at h0 h1;by_cases g:r.length=p.length
  .have g':(r.length:Int)=(p.length:Int):=aa;rw[if_neg (by simpa using g)]at h0 h1;simp(disch:=try exact ac)[jI,g'];rw[<-g'];refine lo (aav (r:=r) aa _ r [] rfl (fun gg=>?_) (fun gg=>?_))
   .rw[if_pos gg]at h0 h1;have:=Oj hp k q (a++[r]) aG h0 h1;simp(disch:=try exact ac);simp at this ⊢;exact this
   .rw[if_neg (by simp[gg])]at h1;simp;exact h1 aa
  .have g':¬(r.length:Int)=(p.length:Int):=aa;rw[if_pos g]at h1;simp(disch:=try exact ac)[jI,g'];exact h1 aa
def mzB(p:LiQ)(m:LLQ):Int:=if pcB p=0 then EX p.length m else pcB p
theorem J8{p:LiQ}{m:LLQ}(hp:p.length<1000000000)(hm:m.length<1000000000):CP Y F.ku [lst di p,mat m] (I (mzB p m)):=by
 refine zH ?_;simp[ku];refine cd (lT hp) ?_;by_cases h:pcB p=0
 .have e:mzB p m=EX p.length m:=if_pos h;rw[e];simp[h];refine lo (Oj aa _ m [] (by simpa using hm) (fun g=>?_) (fun g=>?_))
  .rw[g];simp
  .simp
 .have e:mzB p m=pcB p:=if_neg h;rw[e];simp[h]<;>exact bP rfl
theorem Do{p r:LiQ}(hp:p.length<1000000000):CP Y F.kK [lst di p,lst di r] (I (mzB p [r])):=by
 refine EY ?_;have hli:∀H,fO 1 [nPQ] [(0,lst di r)] H=some ([row r],H):=fun H=>Qs ..
 simp[kK,hli];refine cd (v:=I (mzB p [r])) (J8 (m:=[r]) hp ae) ?_;simp<;>exact bP rfl
theorem abC{p r:LiQ}(hp:pcB p=0)(hl:r.length=p.length)(hs:smR r=true):mzB p [r]=0:=by unfold mzB;rw[if_pos hp];simp[EX,hl,hs]
theorem Hl(a:List α)(y x:α)(q:List α):(a++y::q).set a.length x=a++x::q:=by
 induction a with
 |nil=>rfl
 |cons z a ih=>simp
def ofQ(r:LiQ):List Q:=r.map fun x=>(x,1)
def okK(K:Nat)(s:List Q):Prop:=∀x∈s,okQ x∧qL K x
def ut(k:Q):List Q->List Q->List Q
 |x::o,y::s=>ko x (pA y k)::ut k o s
 |_,_=>[]
def zn:List Q->List (List Q)->List Q->List Q
 |o,s::l,k::f=>zn (ut k o s) l f
 |o,_,_=>o
theorem rK(k:Q):∀(o s:List Q),o.length=s.length->(ut k o s).length=s.length
 |[],[],_=>rfl
 |x::o,y::s,h=>by simp[ut,rK k o s (by grind)]
 |[],_::_,h=>by simp at h
 |_::_,[],h=>by rfl
theorem B9{Ko Ks Kk:Nat}{k:Q}(hk:okQ k)(lk:qL Kk k):∀{o s:List Q},okK Ko o->okK Ks s->okK (Ko+(Ks+Kk)+1) (ut k o s)
 | x::o,y::s,ho,hs,z,hz=>by
  simp only[ut,Zs]at hz;rcases hz with rfl|hz
  .obtain⟨h1,h2⟩:=ho x ae;obtain⟨h3,h4⟩:=hs y ae
   simp_all[WJ,Hs,abn,Mo]
  .exact B9 hk lk (fun w hw=>ho w (by grind)) (fun w hw=>hs w (by grind)) z hz
 |[],[],_,_,z,hz=>by trivial
 |[],_::_,_,_,z,hz=>by trivial
 |_::_,[],_,_,z,hz=>by trivial
theorem lG(d:β)(f:α->β)(a:List α)(x:α)(q:List α):nth d ((a++x::q).map f) a.length=f x:=by
 have:nth d (a.map f++f x::q.map f) (a.map f).length=f x:=by simp[-List.length_map]
 grind
def szD(s:List Q):D:=.sl (s.map tx).length ((s.map tx).flatMap aV)
theorem NE(s:List Q):V.d (szD s)=szV s:=rfl
theorem we(s:List Q):aW (szV s)=some (I s.length):=by simp[szV]
@[simp]theorem adH(s:List Q):norm (szD s)=szD s:=rfl
def h2R(l:List Tx):Hp:=[(1,.data 2 (l.flatMap aV) true false),nnQ]
theorem RN{s fs:List Q}{k:Q}{i:Nat}(hi:i<fs.length)(hki:nth ([],[]) (fs.map tx) i=tx k)(hf:fs.length<1000000)(hN:s.length<1000000){Ko Ks Kk:Nat}(hk:okQ k)(lk:qL Kk k)
  (b1:Ko<=100000) (b2:Ks+Kk<=100000) (h0:List Tx) (kk:KL):∀(q a oq a':List Q),a++q=s->a'.length=a.length->oq.length=q.length->okK Ko oq->okK Ks q->kk (.exit 2) [] (h2R ((a'++ut k oq q).map tx)) ->
  lp (qb (CX Y) (szV fs) (.ref 0 1 0 s.length s.length (s.length*2)) (I i) (szV s) (I s.length)) [1] (h2R h0) [I a.length] (h2R ((a'++oq).map tx)) kk
 | [],a,oq,a',ha,h1,h2,ho,hs,hkk=>by
  simp at ha h2;subst ha;subst h2;refine ai ?_;simp[qb]
  grind[ut]
 |x::q,a,[],a',ha,h1,h2,ho,hs,hkk=>by simp at h2
 | x::q,a,y::oq,a',ha,h1,h2,ho,hs,hkk=>by
  have hal:a.length<s.length:=by subst ha;simp
  obtain⟨o1,o2⟩:=ho y ae;obtain⟨s1,s2⟩:=hs x ae;have hlen:((a'++y::oq).map tx).length=s.length:=by subst ha;simp at h2 ⊢;omega
  have mul:=KH s1 hk (s2.mono aa) (lk.mono aa);have add:=D4 o1 (Hs s1 hk) (o2.mono b1) ((Mo s2 lk).mono aa);have g1:(a.length:Int)<(s.length:Int):=aa;have hx:nth ([],[]) (s.map tx) a.length=tx x:=by subst ha;exact lG ..
  have hy:nth ([],[]) ((a'++y::oq).map tx) a.length=tx y:=by rw[<-h1];exact lG ..
  have i1:=fun h:Hp=>j9 aV ba (s.map tx) h (k:=.i64) (i:=(a.length:Int)) aa (by grind)
  have i2:=fun h:Hp=>kY aV ba ([],[]) (s.map tx) h (j:=a.length) (by grind)
  have j1:=fun h:Hp=>j9 aV ba (fs.map tx) h (k:=.i64) (i:=(i:Int)) aa (by grind)
  have j2:=fun h:Hp=>kY aV ba ([],[]) (fs.map tx) h (j:=i) (by grind)
  simp only[hx,hki,Int.toNat_natCast]at i1 i2 j1 j2
  let D0:Bk:=.data 2 (((a'++y::oq).map tx).flatMap aV) true false
  have e1:=fun z=>ixR (h:=[(1,D0),(1,z)]) (s:=0) (e:=1) rfl hlen (c:=a.length) hal .i64
  have e2:=fun z=>ldR (h:=[(1,D0),(1,z)]) (s:=0) (e:=1) rfl hlen (c:=a.length) hal
  have e3:=fun z=>stR (h:=[(1,D0),(1,z)]) (s:=0) (e:=1) rfl hlen (c:=a.length) hal (tx (ko y (pA x k)))
  have es:((a'++y::oq).map tx).set a.length (tx (ko y (pA x k)))=((a'++[ko y (pA x k)])++oq).map tx:=by
   have:=Hl (a'.map tx) (tx y) (tx (ko y (pA x k))) (oq.map tx);rw[List.length_map,h1]at this;simpa using this
  simp only[hy,es]at e2 e3;have mul':CP Y F.jL [.agg [S (tx x).1,S (tx x).2],.agg [S (tx k).1,S (tx k).2]] (.agg (qT (pA x k))):=mul;have add':CP Y F.eM [.agg [S (tx y).1,S (tx y).2],.agg (qT (pA x k))] (.agg (qT (ko y (pA x k)))):=add
  have e3':∀z,st [(1,D0),(1,z)] 2 (V.ptr 0 1 (a.length*2) (s.length*2)) (.agg (qT (ko y (pA x k))))=some [(1,.data 2 ((((a'++[ko y (pA x k)])++oq).map tx).flatMap aV) true false),(1,z)]:=fun z=>e3 z
  have ih:=RN hi hki hf hN hk lk b1 b2 h0 kk q (a++[x]) oq (a'++[ko y (pA x k)]) (by grind) (by grind) (by grind) (fun w hw=>ho w (by grind)) (fun w hw=>hs w (by grind)) (by grind[ut]);refine ai ?_
  show qb (CX Y) (szV fs) _ _ (szV s) _ _ [(1,D0),nnQ] _
  simp[qb,szV,i1,i2,j1,j2,e1,e2,e3',g1,aV];refine cd mul' ?_;simp;refine cd add' ?_ (by rfl);simp(disch:=try exact ac)[e1,e3',h2R,clean,iZ,qe,o6,offB,gN,aR,show Nat.beq 1 0=false from rfl]
  simp_all[h2R,szV]
theorem NF{n:Nat}{fs:List Q}(hf:fs.length<1000000)(hN:n<1000000){Ks Kk:Nat}(b2:Ks+Kk<=90000)(h0:List Tx)(kk:KL):∀(l a:List (List Q))(q f:List Q)(o:List Q)(Ko:Nat),f++q=fs->f.length=a.length->l.length=q.length->Ko+l.length*(Ks+Kk+1)<=100000 ->
  o.length=n->okK Ko o->(∀s∈l,s.length=n∧okK Ks s)->okK Kk q->kk (.exit 0) [] (h2R ((zn o l q).map tx)) ->
  lp (rP (CX Y) (szV fs) (.ref 0 1 0 n n (n*2)) (lst szD (a++l)) (I (a++l).length)) [1] (h2R h0) [I a.length] (h2R (o.map tx)) kk
 | [],a,q,f,o,Ko,hfq,h1,h2,b1,hn,ho,hl,hq,hkk=>by
  refine ai ?_;simp[rP]
  grind[zn]
 |s::l,a,[],f,o,Ko,hfq,h1,h2,b1,hn,ho,hl,hq,hkk=>by simp at h2
 | s::l,a,k::q,f,o,Ko,hfq,h1,h2,b1,hn,ho,hl,hq,hkk=>by
  obtain⟨s1,s2⟩:=hl s ae;obtain⟨k1,k2⟩:=hq k ae;have hLl:(l.length+1)*(Ks+Kk+1)=l.length*(Ks+Kk+1)+(Ks+Kk+1):=X7 ..;rw[List.length_cons,hLl]at b1;have hb:(a++s::l).length<1000000:=by simp at h2 ⊢;subst hfq;simp at hf;omega
  have g1:(a.length:Int)<((a++s::l).length:Int):=by simp;omega
  have i1:=fun h:Hp=>nU szD (a++s::l) h (k:=.i64) (i:=(a.length:Int)) aa g1
  have i2:=fun h:Hp=>md szD [] (a++s::l) h (j:=a.length) ae
  have hnt:nth [] (a++s::l) a.length=s:=ae;simp only[hnt,Int.toNat_natCast]at i1 i2;have hlv:=we s;have hki:nth ([],[]) (fs.map tx) a.length=tx k:=by rw[<-hfq,<-h1];exact lG ..
  have hi:a.length<fs.length:=by rw[<-hfq];simp;omega
  simp only[NE]at i2;refine ai ?_;obtain⟨L,hLe⟩:∃L,L=(a++s::l).length:=⟨_,rfl⟩;rw[<-hLe]at g1 ⊢;simp[rP,i1,i2,g1,hlv,NE];subst s1;refine lo (RN hi hki hf hN k1 k2 (Ko:=Ko) (Ks:=Ks) aa aa (o.map tx) _ s [] o [] rfl rfl hn ho s2 ?_)
  have ih:=NF hf hN b2 h0 kk l (a++[s]) q (f++[k]) (ut k o s) (Ko+(Ks+Kk)+1) (by grind) (by grind) (by grind) aa (rK k o s hn) (B9 k1 k2 ho s2) (fun t ht=>hl t (by grind)) (fun t ht=>hq t (by grind)) (by trivial);simp(disch:=try exact ac)[h2R,clean,iZ,qe,o6,offB,gN,aR,show Nat.beq 1 0=false from rfl]
  have hL:(a++[s]++l).length=L:=by rw[hLe];simp
  simp_all[h2R]
def oo(n:Nat)(l:List (List Q))(f:List Q):List Q:=zn (List.replicate n (0,1)) l f
theorem G2{Ks Kk:Nat}:∀{l:List (List Q)}{f o:List Q}{Ko:Nat},okK Ko o->(∀s∈l,okK Ks s)->okK Kk f->okK (Ko+l.length*(Ks+Kk+1)) (zn o l f)
 |[],f,o,Ko,ho,_,_=>by grind[zn]
 |s::l,[],o,Ko,ho,hl,hf=>fun x hx=>⟨(ho x (by trivial)).1,(ho x (by trivial)).2.mono aa⟩
 | s::l,k::f,o,Ko,ho,hl,hf=>by
  obtain⟨k1,k2⟩:=hf k ae;have:=G2 (l:=l) (f:=f) (B9 k1 k2 ho (hl s ae)) (fun t ht=>hl t (by grind)) (fun t ht=>hf t (by grind))
  have e:Ko+(s::l).length*(Ks+Kk+1)=Ko+(Ks+Kk)+1+l.length*(Ks+Kk+1):=by
   rw[List.length_cons,X7];omega
  rw[e];exact this
theorem qZ:∀{l:List (List Q)}{f o:List Q},(∀s∈l,s.length=o.length)->(zn o l f).length=o.length
 |[],f,o,_=>by simp[zn]
 |s::l,[],o,_=>by rfl
 | s::l,k::f,o,h=>by
  have e:=rK k o s (h s ae).symm;have hs:=h s ae;have:=qZ (l:=l) (f:=f) (o:=ut k o s) (fun t ht=>by grind)
  grind[zn]
theorem xH(n:Nat):okK 1 (List.replicate n (0,1)):=fun x hx=>by
 have:=List.eq_of_mem_replicate hx;subst this;exact⟨⟨af,af⟩,cQ af af,cQ af af⟩
theorem LX{n:Nat}{l:List (List Q)}{fs:List Q}{Ks Kk:Nat}(hN:n<1000000)(hf:fs.length<1000000)(hlen:l.length=fs.length)(b2:Ks+Kk<=90000)(b1:1+l.length*(Ks+Kk+1)<=100000)
  (hl:∀s∈l,s.length=n∧okK Ks s) (hq:okK Kk fs):CP Y F.nV [I n,lst szD l,szV fs] (szV (oo n l fs)):=by
 refine Ma ?_;have zi:=VT (h:=[nnQ,nnQ]) (n:=n) rfl hN;have hfl:=fv aV ba (List.replicate n zT);rw[Zb]at hfl;have hz:(List.replicate n ((0,1):Q)).map tx=List.replicate n zT:=by simp[zT]
 have hl':((oo n l fs).map tx).length=n:=by
  rw[List.length_map];unfold oo;rw[qZ (fun s hs=>by grind)];simp
 have sn:=aar (h:=h2R ((oo n l fs).map tx)) (s:=0) (e:=1) (n:=n) rfl hl';have ll:aW (lst szD l)=some (I l.length):=rfl;simp[nV];refine lE (gA (e:=0) (b:=.none) zi rfl ?_);rw[hfl];simp[ll]
 have so:=NF (n:=n) (fs:=fs) hf hN b2 (List.replicate n zT) (exK [(Exit.exit 0,fun l3 h=>out (szV (oo n l fs)) (V.ref 0 1 0 n n (n*2)) h)]) l [] fs [] (List.replicate n (0,1)) 1 rfl rfl hlen b1 ae (xH n) hl hq (by
  simp;exact⟨_,sn⟩)
 rw[hz]at so;trivial
theorem DI{g:FuncId}{p:Tx->Bool}(l:List Tx)(hp:∀x∈l,CP Y g [.agg [S x.1,S x.2]] (B (p x)))(hN:l.length<1000000)(k:KL):∀(q a:List Tx),a++q=l ->
  (idx p q = -1->k (.exit 0) [] [])->(∀i:Nat,idx p q=i->k .ret [I (a.length+i:Nat)] []) ->
  lp (bY (CX Y) (oQ aV l) (.fn g [] []) (I l.length)) [] [] [I a.length] [] k
 | [],a=>by
  intro ha h0 _;simp at ha;subst ha;refine ai ?_;simp[bY];exact h0 rfl
 | x::q,a=>by
  intro ha h0 h1;have hal:a.length<l.length:=by subst ha;simp
  have e3:nth ([],[]) l a.length=x:=by subst ha;simp
  have e1:=j9 aV ba l [] (k:=.i64) (i:=(a.length:Int)) aa aa;have e2:=kY aV ba ([],[]) l [] hal;rw[e3]at e2;rw[Int.toNat_natCast]at e1;refine ai ?_;simp(disch:=try exact ac)[bY,e1,e2,aV];refine cdf (fs:=[]) (args:=[.agg [S x.1,S x.2]]) (cs:=[]) (hp x (by grind)) rfl ?_;simp
  refine Vq (fun h=>?_) (fun h=>?_)<;>try simp(disch:=try exact ac)[h]
  .have e:idx p (x::q)=(0:Nat):=by simp[idx,List.findIdx?_cons,h]
   grind
  .have:=DI l hp hN k q (a++[x]) (by grind) (fun e=>h0 ?_) (fun i e=>?_)
   .simp_all
   .grind[idx]
   .have:=h1 (i+1) ?_
    .simpa[X1,Nat.add_comm 1 i]using this
    grind[idx]
theorem wX{g:FuncId}{p:Tx->Bool}(l:List Tx)(hN:l.length<1000000)(hp:∀x∈l,CP Y g [.agg [S x.1,S x.2]] (B (p x))):CP Y F.aJ [oQ aV l,.fn g [] []] (B (l.any p)):=by
 refine kG ?_;simp[aJ];refine cd (v:=I (idx p l)) (ma ?_) ?_ ?_
 .have ls':aW (oQ aV l)=some (I l.length):=rfl;simp[bE,ls'];refine lo (DI l hp hN _ l [] rfl (fun e=>?_) (fun i e=>?_))
  .simp[e]
  .simp[e]
 .simp;have:=BW p l;have e:decide (0<=idx p l)=l.any p:=by rw[Yp];simpa using this
  simp_all
 rfl
theorem DJ{g:FuncId}{p:Tx->Bool}(l:List Tx)(hp:∀x∈l,CP Y g [.agg [S x.1,S x.2]] (B (p x)))(hN:l.length<1000000)(k:KL):∀(q a:List Tx),a++q=l ->
  (idx p q = -1->k (.exit 0) [] [])->(∀i:Nat,idx p q=i->k .ret [I (a.length+i:Nat)] []) ->
  lp (bH (CX Y) (oQ aV l) (.fn g [] []) (I l.length)) [] [] [I a.length] [] k
 | [],a=>by
  intro ha h0 _;simp at ha;subst ha;refine ai ?_;simp[bH];exact h0 rfl
 | x::q,a=>by
  intro ha h0 h1;have hal:a.length<l.length:=by subst ha;simp
  have e3:nth ([],[]) l a.length=x:=by subst ha;simp
  have e1:=j9 aV ba l [] (k:=.i64) (i:=(a.length:Int)) aa aa;have e2:=kY aV ba ([],[]) l [] hal;rw[e3]at e2;rw[Int.toNat_natCast]at e1;refine ai ?_;simp(disch:=try exact ac)[bH,e1,e2,aV];refine cdf (fs:=[]) (args:=[.agg [S x.1,S x.2]]) (cs:=[]) (hp x (by grind)) rfl ?_;simp
  refine Vq (fun h=>?_) (fun h=>?_)<;>try simp(disch:=try exact ac)[h]
  .have e:idx p (x::q)=(0:Nat):=by simp[idx,List.findIdx?_cons,h]
   grind
  .have:=DJ l hp hN k q (a++[x]) (by grind) (fun e=>h0 ?_) (fun i e=>?_)
   .simp_all
   .grind[idx]
   .have:=h1 (i+1) ?_
    .simpa[X1,Nat.add_comm 1 i]using this
    grind[idx]
theorem Ii{g:FuncId}{p:Tx->Bool}(l:List Tx)(hN:l.length<1000000)(hp:∀x∈l,CP Y g [.agg [S x.1,S x.2]] (B (p x))):CP Y F.aM [oQ aV l,.fn g [] []] (B (l.any p)):=by
 refine jz ?_;simp[aM];refine cd (v:=I (idx p l)) (kh ?_) ?_ ?_
 .have ls':aW (oQ aV l)=some (I l.length):=rfl;simp[bf,ls'];refine lo (DJ l hp hN _ l [] rfl (fun e=>?_) (fun i e=>?_))
  .simp[e]
  .simp[e]
 .simp;have:=BW p l;have e:decide (0<=idx p l)=l.any p:=by rw[Yp];simpa using this
  simp_all
 rfl
def Lj(n:Nat):List (List Q)->Int
 |[]=>0
 |s::l=>if s.length=n then Lj n l else 5
theorem O8{p:LiQ}(hp:p.length<1000000000)(k:KL):∀(q a:List (List Q)),(a++q).length<1000000->(∀s∈q,okS s∧s.length<1000000) ->
  (Lj p.length q=0->k (.exit 0) [] [])->(Lj p.length q≠0->k .ret [I (Lj p.length q)] []) ->
  lp (nD (CX Y) (lst di p) (lst szD (a++q)) (I (a++q).length)) [] [] [I a.length] [] k
 | []=>by
  intro a hN hs h0 h1;refine ai ?_;simp[nD];exact h0 rfl
 | s::q=>by
  intro a hN hs h0 h1;obtain⟨s1,s2⟩:=hs s ae;have ck:=QY (p:=p) s1 s2;have g1:(a.length:Int)<((a++s::q).length:Int):=by simp;omega
  have i1:=nU szD (a++s::q) [] (k:=.i64) (i:=(a.length:Int)) aa g1;have i2:=md szD [] (a++s::q) [] (j:=a.length) ae;have hnt:nth [] (a++s::q) a.length=s:=ae;rw[hnt]at i2;rw[Int.toNat_natCast]at i1;refine ai ?_;simp only[Lj]at h0 h1;obtain⟨L,hLe⟩:∃L,L=(a++s::q).length:=⟨_,rfl⟩;rw[<-hLe]at g1 ⊢;simp[nD,i1,i2,g1,NE]
  refine cd ck ?_ (by rfl);by_cases g:s.length=p.length
  .rw[if_pos g]at h0 h1 ⊢;have:=O8 hp k q (a++[s]) (by grind) (fun t ht=>hs t (by grind)) h0 h1;simp(disch:=try exact ac);have e:(a++[s]++q).length=L:=by rw[hLe];simp
   simp_all
  .rw[if_neg g]at h1 ⊢;simp
   grind
theorem vH{p:LiQ}{l:List (List Q)}(hp:p.length<1000000000)(hl:l.length<1000000)(hs:∀s∈l,okS s∧s.length<1000000):CP Y F.iI [lst di p,lst szD l] (I (if pcB p=0 then Lj p.length l else pcB p)):=by
 refine A0 ?_;simp[iI];refine cd (lT hp) ?_;by_cases h:pcB p=0
 .rw[if_pos h];simp[h];refine lo (O8 hp _ l [] (by trivial) hs (fun g=>?_) (fun g=>?_))
  .rw[g];simp
  .simp
 .rw[if_neg h];simp[h]<;>exact bP rfl
theorem B6{n:Nat}:∀{l:List (List Q)},(∀s∈l,s.length=n)->Lj n l=0
 |[],_=>rfl
 |s::l,h=>by rw[Lj,if_pos (h s ae)];exact B6 fun t ht=>h t (by grind)
theorem Mj(hl:qL 30 x):CP Y F.iY [.agg (qT x)] (B false):=by refine zr ?_;simp[iY,qT];refine cd (PS hl) ?_ (by rfl);simp<;>exact cx rfl
theorem GP(l:List α):(l.any fun _=>false)=false:=by induction l<;>simp_all
theorem Jc(s:List Q)(h:Hp):bg h (szV s)=some (szV s,h):=by rfl
theorem PW(hs:okS s)(hN:s.length<1000000):CP Y F.oJ [szV s] (.tup [szV s,I 0]):=by
 refine EQ ?_
 have:=wX (g:=F.iY) (p:=fun _=>false) (s.map tx) (by grind) (fun x hx=>by
  obtain⟨y,hy,rfl⟩:=Zh.1 hx;exact Mj (hs y hy).2)
 rw[GP]at this;simp[oJ];refine cd this ?_ (by rfl);simp;simp[bN,Jc]
theorem La(hx:okQ x)(hl:qL 30 x):CP Y F.ie [.agg (qT x)] (B false):=by refine xU ?_;simp[ie,qT];refine cd (QZ hx hl) ?_ (by rfl);simp<;>exact cx rfl
theorem M9{p:LiQ}{l:List (List Q)}(hp:pcB p=0)(hN:p.length<1000000)(hf:fs.length<1000)(hlen:l.length=fs.length)(hl:∀s∈l,s.length=p.length∧okS s)(hq:okS fs)(hr:okS (oo p.length l fs)):
  CP Y F.nC [lst di p,lst szD l,szV fs] (.tup [szV (oo p.length l fs),I 0]):=by
 refine CL ?_;have ca:=vH (p:=p) (l:=l) aa aa (fun s hs=>⟨(hl s hs).2,by grind⟩);rw[if_pos hp,B6 fun s hs=>(hl s hs).1]at ca
 have cf:=Ii (g:=F.ie) (p:=fun _=>false) (fs.map tx) (by grind) (fun x hx=>by
  obtain⟨y,hy,rfl⟩:=Zh.1 hx;exact La (hq y hy).1 (hq y hy).2)
 rw[GP]at cf;have su:=LX (n:=p.length) (l:=l) (fs:=fs) (Ks:=30) (Kk:=30) hN aa hlen aa aa hl hq;have rs:=PW hr (by grind[oo,qZ]);have l1:aW (lst szD l)=some (I l.length):=rfl;have l2:=we fs;have l3:aW (lst di p)=some (I p.length):=rfl;have g1:((fs.length:Int)=(l.length:Int))=True:=eq_true aa;simp[nC];refine cd ca ?_
 simp[l1,l2,g1];refine cd cf ?_ (by rfl);simp[l3];refine cd su ?_ (by rfl);simp;refine cd rs ?_ (by rfl);simp;simp[bN,Jc]
theorem aby(z:Int)(h1 : -1000000000000000000<z)(h2:z<1000000000000000000):okQ (z,1)∧qL 30 (z,1):=
 ⟨⟨ae,ae⟩,Zu (HF aa aa) af,cQ ae af⟩
theorem Sk{p:LiQ}{k:Q}(hp:pcB p=0)(hN:p.length<1000000)(hl:s.length=p.length)(hs:okS s)(hk:okQ k∧qL 30 k)(hr:okS (oo p.length [s] [k])):
  CP Y F.ou [lst di p,szV s,.agg (qT k)] (.tup [szV (oo p.length [s] [k]),I 0]):=by
 refine Hb ?_;have cb:=M9 (p:=p) (l:=[s]) (fs:=[k]) hp hN ae rfl (fun t ht=>by grind) (fun x hx=>by grind) hr;have l1:∀H,fO 1 [nPQ] [(0,szV s)] H=some ([szD s],H):=fun H=>Qs ..
 have l2:∀H,fO 1 [D.str [],D.str []] [(0,.agg [S (itoa k.1),S (ah k.2)])] H=some (aV (tx k),H):=fun H=>Ow k H
 simp[ou,qT,l1,l2];refine cd (v:=.tup [szV (oo p.length [s] [k]),I 0]) cb ?_ (by rfl);simp;simp[bN,Jc]
theorem aa7{y:Q}(h:tx x=tx y):x=y:=by unfold tx at h;simp only[Z6]at h;exact Prod.ext (vy h.1) (pR h.2)
theorem agr(x y:Q):biA [.str [],.str []] .neq (.agg [S (tx x).1,S (tx x).2]) (.agg [S (tx y).1,S (tx y).2])=some (B (!decide (x=y))):=by
 have:((tx x).1 == (tx y).1&&((tx x).2 == (tx y).2&&true))=decide (x=y):=by
  rw[Yp];simp only[Z8,beq_iff_eq,decide_eq_true_eq,and_true];exact⟨fun h=>aa7 (Prod.ext h.1 h.2),fun h=>by subst h;exact⟨rfl,rfl⟩⟩
 simp only[biA,yG,eqC,this]
theorem KS{s t:List Q}(hN:s.length<1000000)(k:KL):∀(q r a b:List Q),a++q=s->b++r=t->a.length=b.length->q.length=r.length->(q=r->k (.exit 0) [] [])->(q≠r->k .ret [B false] []) ->
  lp (bM (CX Y) (szV s) (szV t) (I s.length)) [] [] [I a.length] [] k
 | [],r,a,b,ha,hb,hab,hqr,h0,h1=>by
  simp at ha;subst ha
  have:r=[]:=by cases r with
   |nil=>rfl
   |cons y r=>simp at hqr
  refine ai ?_;simp(disch:=try exact ac)[bM];exact h0 this.symm
 |x::q,[],a,b,ha,hb,hab,hqr,h0,h1=>by simp at hqr
 | x::q,y::r,a,b,ha,hb,hab,hqr,h0,h1=>by
  have hal:a.length<s.length:=by subst ha;simp
  have hbl:a.length<t.length:=by subst hb;simp;omega
  have hx:nth ([],[]) (s.map tx) a.length=tx x:=by subst ha;exact lG ..
  have hy:nth ([],[]) (t.map tx) a.length=tx y:=by subst hb;rw[hab];exact lG ..
  have i1:=j9 aV ba (s.map tx) [] (k:=.i64) (i:=(a.length:Int)) aa aG;have i2:=kY aV ba ([],[]) (s.map tx) [] (j:=a.length) (by simpa using hal);have j1:=j9 aV ba (t.map tx) [] (k:=.i64) (i:=(a.length:Int)) aa aG;have j2:=kY aV ba ([],[]) (t.map tx) [] (j:=a.length) (by simpa using hbl)
  have g1:(a.length:Int)<(s.length:Int):=aa;have e:=agr x y;simp only[hx,hy,Int.toNat_natCast,aV,Z1,Yx]at i1 i2 j1 j2;refine ai ?_;by_cases hxy:x=y
  .subst hxy;have ih:=KS hN k q r (a++[x]) (b++[x]) (by simpa using ha) (by simpa using hb) (by simp[hab]) (by simpa using hqr) (fun e=>h0 (by rw[e])) (fun e=>h1 (by simpa using e));rw[show(!decide (x=x))=false by simp]at e;simp(disch:=try exact ac)[bM,szV,i1,i2,j1,j2,g1,e];simpa[szV]using ih
  .rw[show(!decide (x=y))=true by simp[hxy]]at e;simp(disch:=try exact ac)[bM,szV,i1,i2,j1,j2,g1,e];exact h1 (by simp[hxy])
theorem QQ(hN:s.length<1000000):CP Y F.pL [szV s,szV t] (B (decide (s=t))):=by
 refine Hd ?_;have l1:=we s;have l2:=we t
 have se:CP Y F.aY [szV s,szV t] (B (decide (s=t))):=by
  refine nQ ?_;by_cases h:s.length=t.length
  .have g:((s.length:Int)=(t.length:Int))=True:=eq_true aa;simp(disch:=try exact ac)[aY,l1,l2,g]
   have:=KS (s:=s) (t:=t) hN (exK [(Exit.exit 0,fun l5 h=>out (B (decide (s=t))) (V.d (D.bool true)) h),(Exit.ret,fun l5 h=>out (B (decide (s=t))) (ge l5 0) h)]) s t [] [] rfl rfl rfl h (fun g=>by
    simp(disch:=try exact ac);exact cx (by simp[g])) (fun g=>by
    simp(disch:=try exact ac);exact cx (by simp[g]))
   refine lo ?_;exact this
  .have g:¬((s.length:Int)=(t.length:Int)):=aa;have:¬s=t:=fun e=>h (by rw[e])
   simp(disch:=try exact ac)[aY,l1,l2,g]<;>exact cx (by simp[this])
 simp(disch:=try exact ac)[pL];refine cd se ?_ (by simp[aA,bg,szV,oQ]);simp(disch:=try exact ac)<;>exact cx rfl
structure Tg where
 iv:LiQ
 num:LuQ
 den:LuQ
 deriving DecidableEq
variable{l l':List Tg}
def tgD(t:Tg):LdQ:=[row t.iv,.str t.num,.str t.den]
theorem oT(t:Tg):(tgD t).length=3:=rfl
def tgs(l:List Tg):V:=oQ tgD l
def tg0:Tg:=⟨[],[],[]⟩
def TgS(t:Tg):Prop:=t.num.length<1000000∧t.den.length<1000000∧t.iv.length<1000000
def wtE(t:Tg):Int:=match rdF t.num t.den with
 |none=>2
 |some q=>if q.1<=0 then 3 else if 30<t.num.length∨30<t.den.length then 4 else 0
def tgE(p:LiQ)(t:Tg):Int:=if mzB p [t.iv]=0 then wtE t else mzB p [t.iv]
def wP(p:LiQ):List Tg->Int
 |[]=>0
 |t::l=>if tgE p t=0 then wP p l else tgE p t
def dmB(p:LiQ)(l:List Tg):Int:=if pcB p=0 then(if l.length<=60 then wP p l else 4)else pcB p
theorem GZ{n:LuQ}(h:rdF n d=some q):n=itoa q.1∧d=ah q.2:=by
 unfold rdF at h;cases h1:rd n with
 |none=>rw[h1]at h;cases h
 | some x=>
  cases h2:rd d with
  |none=>rw[h1,h2]at h;cases h
  | some y=>
   rw[h1,h2]at h;simp only at h;split at h
   .rename_i hc;obtain rfl:=Option.some.inj h;refine⟨(BF h1).1,?_⟩;rw[(BF h2).1];unfold itoa;rw[if_neg aa]
   .cases h
theorem FK{n:LuQ}(h:rdF n d=some q):CP Y F.iN [.agg [S n,S d]] (I (sgn q.1)):=by obtain⟨rfl,rfl⟩:=GZ h;exact QK q
theorem RF{n:LuQ}(h:rdF n d=some q)(hq:0<q.1):CP Y F.eQ [S n] (S n):=by
 obtain⟨rfl,rfl⟩:=GZ h
 have e:itoa q.1=ah q.1.toNat:=by
  unfold itoa;rw[if_neg aa];congr 1;omega
 rw[e];exact IA _
theorem Hh{z:Int}:sgn z<=0↔z<=0:=by unfold sgn;split<;>first|omega|(split<;>omega)
theorem FJ{a q:List Tg}{t:Tg}(e:l=a++t::q):nth tg0 l a.length=t:=by rw[e];simp
theorem Ee{p:LiQ}(hp:p.length<1000000){l:List Tg}(hl:l.length<1000000)(hs:∀t∈l,TgS t)(u v:Bk)(K:KL):∀(q a:List Tg),l=a++q->(wP p q=0->K (.exit 0) [] [nnQ,nnQ])->(∀h,wP p q≠0->K .ret [I (wP p q)] h) ->
  lp (oi (CX Y) (lst di p) (tgs l) (I l.length)) [0,1] [(0,u),(0,v)] [I a.length] [nnQ,nnQ] K
 | [],a,e,k0,k1=>by
  simp only[Zo]at e;subst e;refine ai ?_;have hlt:¬((l.length:Int)<(l.length:Int)):=aa;simp only[oi];simp(disch:=try exact ac)[hlt];exact k0 rfl
 | t::q,a,e,k0,k1=>by
  refine ai ?_;have hlt:((a.length:Int)<(l.length:Int)):=by rw[e];simp;omega
  have hal:a.length<l.length:=aa;have ht:=hs t (by rw[e];simp);have i1:∀h:Hp,ixV h 3 (tgs l) (I a.length)=some (.dptr (l.flatMap tgD) (a.length*3)):=fun h=>j9 tgD oT l h (k:=.i64) (i:=(a.length:Int)) aa hlt
  have i2:∀h:Hp,ldA h 3 (.dptr (l.flatMap tgD) (a.length*3))=some (.agg [lst di t.iv,S t.num,S t.den]):=fun h=>by
   have:=kY tgD oT tg0 l h hal;rw[FJ e]at this;exact this
  have mc:=Do (p:=p) (r:=t.iv) aa;have fc:=wu t.num t.den (by have:=ht.1;omega) (by have:=ht.2.1;omega);have okr:okV (lst di t.iv)=true:=rfl;simp only[wP]at k0 k1;simp only[oi];simp(disch:=try exact ac)[hlt,i1,i2,okr];refine cd mc ?_ (by rfl);by_cases g1:mzB p [t.iv]=0
  .have ete:tgE p t=wtE t:=if_pos g1;simp(disch:=try exact ac)[g1];refine cd fc ?_ (by rfl);cases hq:rdF t.num t.den with
   | none=>
    have e2:wtE t=2:=by simp[wtE,hq]
    rw[ete,e2,if_neg af]at k1;simp(disch:=try exact ac);exact k1 _ af
   | some y=>
    simp(disch:=try exact ac);refine cd (FK hq) ?_ (by rfl);by_cases g2:y.1<=0
    .have e2:wtE t=3:=by simp[wtE,hq,g2]
     rw[ete,e2,if_neg af]at k1;have g3:=Hh.2 g2;simp(disch:=try exact ac)[g3];exact k1 _ af
    .have g3:¬sgn y.1<=0:=fun h=>g2 (Hh.1 h)
     simp(disch:=try exact ac)[g3];refine cd (RF hq aa) ?_ (by rfl);have s1:ju (S t.num)=some (I t.num.length):=rfl;have s2:ju (S t.den)=some (I t.den.length):=rfl;by_cases h1:30<t.num.length
     .have e2:wtE t=4:=by simp[wtE,hq,g2,h1]
      rw[ete,e2,if_neg af]at k1;have h1':(t.num.length:Int)>30:=aa;simp(disch:=try exact ac)[s1,s2,h1'];exact k1 _ af
     .have h1':¬(t.num.length:Int)>30:=aa;by_cases h2:30<t.den.length
      .have e2:wtE t=4:=by simp[wtE,hq,g2,h2]
       rw[ete,e2,if_neg af]at k1;have h2':(t.den.length:Int)>30:=aa;simp(disch:=try exact ac)[s1,s2,h1',h2'];exact k1 _ af
      .have h2':¬(t.den.length:Int)>30:=aa;have e2:wtE t=0:=by simp[wtE,hq,g2,h1,h2]
       rw[ete,e2,if_pos rfl]at k0 k1;have ih:=Ee hp hl hs u v K q (a++[t]) (by rw[e];simp) k0 k1;have e4:(((a++[t]).length:Nat):Int)=(a.length:Int)+1:=ae;rw[e4]at ih;simp(disch:=try exact ac)[s1,s2,h1',h2'];exact⟨rfl,lo ih⟩
  .have ete:tgE p t=mzB p [t.iv]:=if_neg g1;rw[ete,if_neg g1]at k1;simp(disch:=try exact ac)[g1];exact k1 _ g1
theorem Ed{p:LiQ}(hp:p.length<1000000)(hl:l.length<1000000)(hs:∀t∈l,TgS t):CP Y F.lj [lst di p,tgs l] (I (dmB p l)):=by
 refine En ?_;have a1:=lT (p:=p) aa;have l1:aW (tgs l)=some (I l.length):=rfl;unfold dmB;simp only[lj];simp(disch:=try exact ac);refine cd a1 ?_;by_cases h:pcB p=0
 .by_cases h2:l.length<=60
  .have h2':¬(l.length:Int)>60:=aa;simp(disch:=try exact ac)[h,l1,h2',h2];refine lo (Ee hp hl hs _ _ _ l [] rfl (fun e0=>?_) (fun h' e0=>?_))
   .show out (I (if pcB p=0 then if l.length<=60 then wP p l else 4 else pcB p)) (V.d (D.int IntKind.i64 0)) _
    rw[if_pos h,if_pos h2,e0];exact bP rfl
   .show out (I (if pcB p=0 then if l.length<=60 then wP p l else 4 else pcB p)) (I (wP p l)) _
    rw[if_pos h,if_pos h2];exact bP rfl
  .have h2':(l.length:Int)>60:=aa;simp(disch:=try exact ac)[h,l1,h2',h2]
 .simp(disch:=try exact ac)[h]
theorem O4{α:Type}{A R:List α}{x0 x1 x2:α}{k:Nat}(hk:A.length=k):cut (A++x0::x1::x2::R) (k+1) 2=some [x1,x2]:=by have e:A++x0::x1::x2::R=(A++[x0])++(x1::x2::R):=ae;rw[cut,if_pos aG,e,W6 (by simp[hk])];rfl
theorem AO{p:LiQ}(hp:p.length<1000000){l:List Tg}(hl:l.length<1000000)(hs:∀t∈l,TgS t)(u:Bk)(K:KL):∀(q a:List Tg),l=a++q->(wP p q=0->K (.exit 0) [] [nnQ])->(∀h,wP p q≠0->K .ret [I (wP p q)] h) ->
  lp (ji (CX Y) (lst di p) (tgs l)) [0] [(0,u)] [I a.length] [nnQ] K
 | [],a,e,k0,k1=>by
  simp only[Zo]at e;subst e;refine ai ?_;have hlt:¬((l.length:Int)<(l.length:Int)):=aa;have l1:aW (tgs l)=some (I l.length):=rfl;simp only[ji];simp(disch:=try exact ac)[l1,hlt];exact k0 rfl
 | t::q,a,e,k0,k1=>by
  refine ai ?_;have l1:aW (tgs l)=some (I l.length):=rfl;have hlt:((a.length:Int)<(l.length:Int)):=by rw[e];simp;omega
  have hal:a.length<l.length:=aa;have ht:=hs t (by rw[e];simp);have i1:∀h:Hp,ixV h 3 (tgs l) (I a.length)=some (.dptr (l.flatMap tgD) (a.length*3)):=fun h=>j9 tgD oT l h (k:=.i64) (i:=(a.length:Int)) aa hlt
  have i2:∀h:Hp,ld1 h (.dptr (l.flatMap tgD) (a.length*3))=some (lst di t.iv):=fun h=>by
   have:=yn tgD oT tg0 l h (o:=0) (x:=row t.iv) hal aa (by rw[FJ e];rfl);exact this
  have i3:∀h:Hp,ldA h 2 (.dptr (l.flatMap tgD) (a.length*3+1))=some (.agg [S t.num,S t.den]):=fun h=>by
   have e5:l.flatMap tgD=a.flatMap tgD++row t.iv :: .str t.num :: .str t.den::q.flatMap tgD:=by rw[e];simp[tgD]
   simp only[ldA,e5];rw[O4 (by rw[fv tgD oT])];rfl
  have mc:=Do (p:=p) (r:=t.iv) aa;have fc:=wu t.num t.den (by have:=ht.1;omega) (by have:=ht.2.1;omega);have okr:okV (lst di t.iv)=true:=rfl;simp only[wP]at k0 k1;simp only[ji];simp(disch:=try exact ac)[hlt,l1,i1,i2,okr];refine cd mc ?_ (by rfl);by_cases g1:mzB p [t.iv]=0
  .have ete:tgE p t=wtE t:=if_pos g1;simp(disch:=try exact ac)[g1,i1,i3];refine cd fc ?_ (by rfl);cases hq:rdF t.num t.den with
   | none=>
    have e2:wtE t=2:=by simp[wtE,hq]
    rw[ete,e2,if_neg af]at k1;simp(disch:=try exact ac);exact k1 _ af
   | some y=>
    simp(disch:=try exact ac);refine cd (FK hq) ?_ (by rfl);by_cases g2:y.1<=0
    .have e2:wtE t=3:=by simp[wtE,hq,g2]
     rw[ete,e2,if_neg af]at k1;have g3:=Hh.2 g2;simp(disch:=try exact ac)[g3];exact k1 _ af
    .have g3:¬sgn y.1<=0:=fun h=>g2 (Hh.1 h)
     have s1:ju (S t.num)=some (I t.num.length):=rfl;have s2:ju (S t.den)=some (I t.den.length):=rfl;by_cases h1:30<t.num.length
     .have e2:wtE t=4:=by simp[wtE,hq,g2,h1]
      rw[ete,e2,if_neg af]at k1;have h1':(t.num.length:Int)>30:=aa;simp(disch:=try exact ac)[g3,s1,s2,h1'];exact k1 _ af
     .have h1':¬(t.num.length:Int)>30:=aa;by_cases h2:30<t.den.length
      .have e2:wtE t=4:=by simp[wtE,hq,g2,h2]
       rw[ete,e2,if_neg af]at k1;have h2':(t.den.length:Int)>30:=aa;simp(disch:=try exact ac)[g3,s1,s2,h1',h2'];exact k1 _ af
      .have h2':¬(t.den.length:Int)>30:=aa;have e2:wtE t=0:=by simp[wtE,hq,g2,h1,h2]
       rw[ete,e2,if_pos rfl]at k0 k1;have ih:=AO hp hl hs u K q (a++[t]) (by rw[e];simp) k0 k1;have e4:(((a++[t]).length:Nat):Int)=(a.length:Int)+1:=ae;rw[e4]at ih;simp(disch:=try exact ac)[g3,s1,s2,h1',h2'];exact⟨rfl,lo ih⟩
  .have ete:tgE p t=mzB p [t.iv]:=if_neg g1;rw[ete,if_neg g1]at k1;simp(disch:=try exact ac)[g1];exact k1 _ g1
theorem Kx{p:LiQ}(hp:p.length<1000000)(hl:l.length<1000000)(hs:∀t∈l,TgS t):CP Y F.gj [lst di p,tgs l] (I (dmB p l)):=by
 refine vj ?_;have a1:=lT (p:=p) aa;have l1:aW (tgs l)=some (I l.length):=rfl;unfold dmB;simp only[gj];simp(disch:=try exact ac);refine cd a1 ?_;by_cases h:pcB p=0
 .by_cases h2:l.length<=60
  .have h2':¬(l.length:Int)>60:=aa;simp(disch:=try exact ac)[h,l1,h2',h2];refine lo (AO hp hl hs _ _ l [] rfl (fun e0=>?_) (fun h' e0=>?_))
   .show out (I (if pcB p=0 then if l.length<=60 then wP p l else 4 else pcB p)) (V.d (D.int IntKind.i64 0)) _
    rw[if_pos h,if_pos h2,e0];exact bP rfl
   .show out (I (if pcB p=0 then if l.length<=60 then wP p l else 4 else pcB p)) (I (wP p l)) _
    rw[if_pos h,if_pos h2];exact bP rfl
  .have h2':(l.length:Int)>60:=aa;simp(disch:=try exact ac)[h,l1,h2',h2]
 .simp(disch:=try exact ac)[h]
theorem CO(K:KL):∀(q q' a a':LiQ),a.length=a'.length->q.length=q'.length->(a++q).length<1000000->(q=q'->K (.exit 0) [] [])->(q≠q'->K .ret [B false] []) ->
  lp (jC (CX Y) (lst di (a++q)) (lst di (a'++q'))) [] [] [I a.length] [] K
 | [],[],a,a',e1,e2,h1,k0,k1=>by
  refine ai ?_;have hlt:¬((a.length:Int)<((a++[]).length:Int)):=ae;have l1:aW (lst di (a++[]))=some (I (a++[]).length):=rfl;simp only[jC];simp(disch:=try exact ac)[l1,hlt];exact k0 rfl
 |[],_::_,a,a',e1,e2,h1,k0,k1=>by simp at e2
 |_::_,[],a,a',e1,e2,h1,k0,k1=>by simp at e2
 | x::q,y::q',a,a',e1,e2,h1,k0,k1=>by
  refine ai ?_;have hlt:((a.length:Int)<((a++x::q).length:Int)):=by simp;omega
  have hal:a.length<1000000:=by simp at h1;omega
  have l1:aW (lst di (a++x::q))=some (I (a++x::q).length):=rfl;have p1:ixV [] 1 (lst di (a++x::q)) (I a.length)=some (.dptr ((a++x::q).map di) a.length):=o9 di a x q _ _
  have p2:ld1 [] (.dptr ((a++x::q).map di) a.length)=some (I x):=by
   rw[oB di (a++x::q) _ ae];simp only[Zm (Z7 _),Zc,Zg];rfl
  have p3:ixV [] 1 (lst di (a'++y::q')) (I a.length)=some (.dptr ((a'++y::q').map di) a.length):=by rw[e1];exact o9 di a' y q' _ _
  have p4:ld1 [] (.dptr ((a'++y::q').map di) a.length)=some (I y):=by
   rw[e1,oB di (a'++y::q') _ ae];simp only[Zm (Z7 _),Zc,Zg];rfl
  simp only[jC];by_cases e:x=y
  .subst e;have ih:=CO K q q' (a++[x]) (a'++[x]) (by simp[e1]) (by simpa using e2) (by simpa using h1) (fun g=>k0 (by rw[g])) (fun g=>k1 (fun g2=>g (by simpa using g2)));have e4:(((a++[x]).length:Nat):Int)=(a.length:Int)+1:=ae;rw[e4,List.append_assoc,List.append_assoc]at ih;simp(disch:=try exact ac)[l1,hlt,p1,p2,p3,p4];exact lo ih
  .simp(disch:=try exact ac)[l1,hlt,p1,p2,p3,p4,e];exact k1 (fun g=>e (by simpa using(List.cons.inj g).1))
theorem Mg{x y:LiQ}(hx:x.length<1000000):CP Y F.gL [lst di x,lst di y] (B (decide (x=y))):=by
 refine wE ?_;have l1:aW (lst di x)=some (I x.length):=rfl;have l2:aW (lst di y)=some (I y.length):=rfl;simp only[gL];by_cases e:x.length=y.length
 .have e':(x.length:Int)=(y.length:Int):=aa
  have:=CO (exK [((.exit 0),fun l5 h=>out (B (decide (x=y))) (.d (.bool true)) h),(.ret,fun l5 h=>out (B (decide (x=y))) (ge l5 0) h)]) x y [] [] rfl e (by simpa using hx)
   (fun g=>cx (by simp[g])) (fun g=>cx (by simp[g]))
  simp(disch:=try exact ac)[l1,l2,e'];exact lo (by simpa using this)
 .have e':¬(x.length:Int)=(y.length:Int):=aa;simp(disch:=try exact ac)[l1,l2,e'];exact cx (by simp;intro g;exact e (by rw[g]))
theorem Pb(a b c d:LuQ):biA [.str [],.str []] .eql (.agg [S a,S b]) (.agg [S c,S d])=some (B (decide (a=c)&&decide (b=d))):=by by_cases h1:a=c<;>by_cases h2:b=d<;>simp[biA,yG,eqC,h1,h2]
theorem ZS(a b c d:LuQ):biA [.str [],.str []] .neq (.agg [S a,S b]) (.agg [S c,S d])=some (B (!(decide (a=c)&&decide (b=d)))):=by by_cases h1:a=c<;>by_cases h2:b=d<;>simp[biA,yG,eqC,h1,h2]
theorem abd{x y:Tg}(hx:TgS x)(hy:TgS y):CP Y F.fN [.agg [lst di x.iv,S x.num,S x.den],.agg [lst di y.iv,S y.num,S y.den]] (B (decide (x=y))):=by
 refine yN ?_;have eq:=vB (x:=x.iv) (y:=y.iv) (by have:=hx.2.2;omega) (by have:=hy.2.2;omega);obtain⟨r,n,d⟩:=x;obtain⟨r',n',d'⟩:=y;simp only at eq ⊢;have b1:=Pb n d n' d';simp only[fN];by_cases e:n=n'∧d=d'
 .obtain⟨rfl,rfl⟩:=e;simp only[decide_true,Xu]at b1;simp(disch:=try exact ac)[b1];refine cd eq ?_ (by rfl);have:decide ((⟨r,n,d⟩:Tg)=⟨r',n,d⟩)=decide (r=r'):=ae;rw[this];exact cx rfl
 ·have e1:(decide (n=n')&&decide (d=d'))=false:=by
   cases h:(decide (n=n')&&decide (d=d'))with
   |false=>rfl
   |true=>exact absurd (by simpa using h) e
  rw[e1]at b1
  have e2:decide ((⟨r,n,d⟩:Tg)=⟨r',n',d'⟩)=false:=by
   simp only[Tg.mk.injEq,decide_eq_false_iff_not];exact fun h=>e h.2
  rw[e2];simp(disch:=try exact ac)[b1]
theorem Cs(a q:List Tg)(t:Tg)(h:Hp):ixV h 3 (tgs (a++t::q)) (I a.length)=some (.dptr ((a++t::q).flatMap tgD) (a.length*3)):=j9 tgD oT _ h (k:=.i64) (i:=(a.length:Int)) aa aG
theorem G0(a q:List Tg)(t:Tg)(h:Hp):ldA h 3 (.dptr ((a++t::q).flatMap tgD) (a.length*3))=some (.agg [lst di t.iv,S t.num,S t.den]):=by have:=kY tgD oT tg0 (a++t::q) h (j:=a.length) ae;rw[FJ rfl]at this;exact this
theorem LW(a q:List Tg)(t:Tg)(h:Hp):ld1 h (.dptr ((a++t::q).flatMap tgD) (a.length*3))=some (lst di t.iv):=
 yn tgD oT tg0 (a++t::q) h (j:=a.length) (o:=0) (x:=row t.iv) ae aa (by rw[FJ rfl];rfl)
theorem abc(a q:List Tg)(t:Tg)(h:Hp):ld1 h (.dptr ((a++t::q).flatMap tgD) (a.length*3+1))=some (S t.num):=
 yn tgD oT tg0 (a++t::q) h (j:=a.length) (o:=1) (x:=.str t.num) ae aa (by rw[FJ rfl];rfl)
theorem abb(a q:List Tg)(t:Tg)(h:Hp):ld1 h (.dptr ((a++t::q).flatMap tgD) (a.length*3+1+1))=some (S t.den):=
 yn tgD oT tg0 (a++t::q) h (j:=a.length) (o:=2) (x:=.str t.den) ae aa (by rw[FJ rfl];rfl)
theorem RE(a q:List Tg)(t:Tg)(h:Hp):ldA h 2 (.dptr ((a++t::q).flatMap tgD) (a.length*3+1))=some (.agg [S t.num,S t.den]):=by
 have e5:(a++t::q).flatMap tgD=a.flatMap tgD++row t.iv :: .str t.num :: .str t.den::q.flatMap tgD:=by simp[tgD]
 simp only[ldA,e5];rw[O4 (by rw[fv tgD oT])];rfl
theorem O0(u v:Bk)(K:KL):∀(q q' a a':List Tg),a.length=a'.length->q.length=q'.length->(a++q).length<1000000->(∀t∈q,TgS t)->(∀t∈q',TgS t)->(q=q'->K (.exit 0) [] [nnQ,nnQ])->(∀h,q≠q'->K .ret [B false] h) ->
  lp (aL (CX Y) (tgs (a'++q')) (.fn F.fN [] []) (tgs (a++q)) (I (a++q).length)) [0,1] [(0,u),(0,v)] [I a.length] [nnQ,nnQ] K
 | [],[],a,a',e1,e2,h1,h2,h3,k0,k1=>by
  refine ai ?_;have hlt:¬((a.length:Int)<((a++[]).length:Int)):=ae;simp only[aL];simp(disch:=try exact ac)[hlt];exact k0 rfl
 |[],_::_,a,a',e1,e2,h1,h2,h3,k0,k1=>by simp at e2
 |_::_,[],a,a',e1,e2,h1,h2,h3,k0,k1=>by simp at e2
 | x::q,y::q',a,a',e1,e2,h1,h2,h3,k0,k1=>by
  refine ai ?_;have hlt:((a.length:Int)<((a++x::q).length:Int)):=by simp;omega
  have hal:a.length<1000000:=by simp at h1;omega
  have fx:=abd (h2 x ae) (h3 y ae);have p1:=Cs a q x;have p2:=G0 a q x;have p3:=Cs a' q' y;have p4:=G0 a' q' y;rw[<-e1]at p3 p4;have okr:∀r,okV (lst di r)=true:=fun r=>rfl
  obtain⟨L,hL⟩:∃L,L=a++x::q:=⟨_,rfl⟩;obtain⟨L',hL'⟩:∃L',L'=a'++y::q':=⟨_,rfl⟩;rw[<-hL]at hlt p1 p2 ⊢;rw[<-hL']at p3 p4 ⊢;simp only[aL];simp(disch:=try exact ac)[hlt,p1,p2,p3,p4,okr];refine cd fx ?_ (by rfl);by_cases e:x=y
  .subst e
   have ih:=O0 u v K q q' (a++[x]) (a'++[x]) (by simp[e1]) (by simpa using e2) (by simpa using h1) (fun r hr=>h2 r (by simp[hr])) (fun r hr=>h3 r (by simp[hr]))
    (fun g=>k0 (by rw[g])) (fun h g=>k1 h (fun g2=>g (by simpa using g2)))
   have e4:(((a++[x]).length:Nat):Int)=(a.length:Int)+1:=ae;rw[e4,show a++[x]++q=L by rw[hL];simp,show a'++[x]++q'=L' by rw[hL'];simp]at ih;simp(disch:=try exact ac);exact⟨rfl,lo ih⟩
  .simp(disch:=try exact ac)[e];exact k1 _ (fun g=>e (by simpa using(List.cons.inj g).1))
theorem Ec(hl:l.length<1000000)(hs:∀t∈l,TgS t)(hs':∀t∈l',TgS t):CP Y F.lh [tgs l,tgs l'] (B (decide (l=l'))):=by
 refine Em ?_
 have key:CP Y F.ax [tgs l,tgs l',.fn F.fN [] []] (B (decide (l=l'))):=by
  refine fp ?_;have l1:aW (tgs l)=some (I l.length):=rfl;have l2:aW (tgs l')=some (I l'.length):=rfl;simp only[ax];by_cases e:l.length=l'.length
  .have e':(l.length:Int)=(l'.length:Int):=aa
   have:=O0 .none .none (exK [((.exit 0),fun l5 h=>out (B (decide (l=l'))) (.d (.bool true)) h),(.ret,fun l5 h=>out (B (decide (l=l'))) (ge l5 0) h)]) l l' [] [] rfl e (by simpa using hl) hs hs'
    (fun g=>cx (by simp[g])) (fun h g=>cx (by simp[g]))
   simp(disch:=try exact ac)[l1,l2,e'];rw[<-e'];exact lo (by simpa using this)
  .have e':¬(l.length:Int)=(l'.length:Int):=aa;simp(disch:=try exact ac)[l1,l2,e'];exact cx (by simp;intro g;exact e (by rw[g]))
 simp only[lh];simp(disch:=try exact ac);refine cd key ?_ (by rfl);exact cx rfl
theorem Kw(K:KL):∀(q q' a a':List Tg),a.length=a'.length->q.length=q'.length->(a++q).length<1000000->(∀t∈q,TgS t)->(∀t∈q',TgS t)->(q=q'->K (.exit 0) [] [])->(q≠q'->K .ret [B false] []) ->
  lp (jh (CX Y) (tgs (a++q)) (tgs (a'++q'))) [] [] [I a.length] [] K
 | [],[],a,a',e1,e2,h1,h2,h3,k0,k1=>by
  refine ai ?_;have hlt:¬((a.length:Int)<((a++[]).length:Int)):=ae;have l1:aW (tgs a)=some (I a.length):=rfl;simp only[jh,Zo];simp(disch:=try exact ac)[l1];exact k0 rfl
 |[],_::_,a,a',e1,e2,h1,h2,h3,k0,k1=>by simp at e2
 |_::_,[],a,a',e1,e2,h1,h2,h3,k0,k1=>by simp at e2
 | x::q,y::q',a,a',e1,e2,h1,h2,h3,k0,k1=>by
  refine ai ?_;have hlt:((a.length:Int)<((a++x::q).length:Int)):=by simp;omega
  have hal:a.length<1000000:=by simp at h1;omega
  have sm:=Mg (x:=x.iv) (y:=y.iv) (h2 x ae).2.2;have l1:aW (tgs (a++x::q))=some (I (a++x::q).length):=rfl;have p1:=Cs a q x;have p2:=LW a q x;have p3:=Cs a' q' y;have p4:=LW a' q' y;have p5:=RE a q x;have p6:=RE a' q' y;rw[<-e1]at p3 p4 p6;have bn:=ZS x.num x.den y.num y.den;obtain⟨L,hL⟩:∃L,L=a++x::q:=⟨_,rfl⟩
  obtain⟨L',hL'⟩:∃L',L'=a'++y::q':=⟨_,rfl⟩;rw[<-hL]at hlt p1 p2 p5 l1 ⊢;rw[<-hL']at p3 p4 p6 ⊢;obtain⟨r,n,d⟩:=x;obtain⟨r',n',d'⟩:=y;simp only at *;simp only[jh];simp(disch:=try exact ac)[l1,hlt,p1,p2,p3,p4];refine cd sm ?_ (by rfl);by_cases er:r=r'
  .subst er;by_cases e:n=n'∧d=d'
   .obtain⟨rfl,rfl⟩:=e
    have ih:=Kw K q q' (a++[⟨r,n,d⟩]) (a'++[⟨r,n,d⟩]) (by simp[e1]) (by simpa using e2) (by simpa using h1) (fun r hr=>h2 r (by simp[hr])) (fun r hr=>h3 r (by simp[hr]))
     (fun g=>k0 (by rw[g])) (fun g=>k1 (fun g2=>g (by simpa using g2)))
    have e4:(((a++[(⟨r,n,d⟩:Tg)]).length:Nat):Int)=(a.length:Int)+1:=ae;rw[e4,show a++[⟨r,n,d⟩]++q=L by rw[hL];simp,show a'++[⟨r,n,d⟩]++q'=L' by rw[hL'];simp]at ih;simp only[decide_true,Xu,W5]at bn;simp(disch:=try exact ac)[p1,p3,p5,p6,bn];exact lo ih
   ·have eb:(!(decide (n=n')&&decide (d=d')))=true:=by
     cases h:(decide (n=n')&&decide (d=d'))with
     |false=>rfl
     |true=>exact absurd (by simpa using h) e
    rw[eb]at bn;simp(disch:=try exact ac)[p1,p3,p5,p6,bn];exact k1 (fun g=>e (by have:=(List.cons.inj g).1;simp at this;exact this))
  .simp(disch:=try exact ac)[er];exact k1 (fun g=>er (by have:=(List.cons.inj g).1;simp at this;exact this.1))
theorem Kv(hl:l.length<1000000)(hs:∀t∈l,TgS t)(hs':∀t∈l',TgS t):CP Y F.f9 [tgs l,tgs l'] (B (decide (l=l'))):=by
 refine vi ?_;have l1:aW (tgs l)=some (I l.length):=rfl;have l2:aW (tgs l')=some (I l'.length):=rfl;simp only[f9];by_cases e:l.length=l'.length
 .have e':(l.length:Int)=(l'.length:Int):=aa
  have:=Kw (exK [((.exit 0),fun l5 h=>out (B (decide (l=l'))) (.d (.bool true)) h),(.ret,fun l5 h=>out (B (decide (l=l'))) (ge l5 0) h)]) l l' [] [] rfl e (by simpa using hl) hs hs'
   (fun g=>cx (by simp[g])) (fun g=>cx (by simp[g]))
  simp(disch:=try exact ac)[l1,l2,e'];exact lo (by simpa using this)
 .have e':¬(l.length:Int)=(l'.length:Int):=aa;simp(disch:=try exact ac)[l1,l2,e'];exact cx (by simp;intro g;exact e (by rw[g]))
def Bp(t:Tg):Bool:=decide (t.iv.length<=8)&&decide (t.num.length<=45)&&decide (t.den.length<=45)
def tB(l:List Tg):Bool:=(decide (l.length<=4)||(decide (60<=l.length)&&decide (l.length<=62)))&&l.all Bp
theorem KP(K:KL):∀(q a:List Tg),(a++q).length<1000->(q.all Bp=true->K (.exit 0) [] [])->(q.all Bp=false->K .ret [B false] []) ->
  lp (ip (CX Y) (tgs (a++q))) [] [] [I a.length] [] K
 | [],a,h1,k0,k1=>by
  refine ai ?_;have l1:aW (tgs a)=some (I a.length):=rfl;simp only[ip,Zo];simp(disch:=try exact ac)[l1];exact k0 rfl
 | x::q,a,h1,k0,k1=>by
  refine ai ?_;have hlt:((a.length:Int)<((a++x::q).length:Int)):=by simp;omega
  have hal:a.length<1000:=by simp at h1;omega
  have l1:aW (tgs (a++x::q))=some (I (a++x::q).length):=rfl;have l2:aW (lst di x.iv)=some (I x.iv.length):=rfl;have l3:ju (S x.num)=some (I x.num.length):=rfl;have l4:ju (S x.den)=some (I x.den.length):=rfl;have p1:=Cs a q x;have p2:=LW a q x;have p3:=abc a q x;have p4:=abb a q x;obtain⟨L,hL⟩:∃L,L=a++x::q:=⟨_,rfl⟩;rw[<-hL]at hlt p1 p2 p3 p4 l1 ⊢
  rw[List.all_cons]at k0 k1;simp only[ip];by_cases g1:x.iv.length<=8
  .have g1':¬(x.iv.length:Int)>8:=aa;by_cases g2:x.num.length<=45
   .have g2':¬(x.num.length:Int)>45:=aa;by_cases g3:x.den.length<=45
    .have g3':¬(x.den.length:Int)>45:=aa;have e0:Bp x=true:=by simp[Bp,g1,g2,g3]
     rw[e0,Yw]at k0 k1;have ih:=KP K q (a++[x]) (by simpa using h1) k0 k1;have e4:(((a++[x]).length:Nat):Int)=(a.length:Int)+1:=ae;rw[e4,show a++[x]++q=L by rw[hL];simp]at ih;simp(disch:=try exact ac)[l1,hlt,p1,p2,p3,p4,l2,l3,l4,g1',g2',g3'];exact lo ih
    .have g3':(x.den.length:Int)>45:=aa;have e0:Bp x=false:=by simp[Bp,g3]
     rw[e0,Wx]at k1;simp(disch:=try exact ac)[l1,hlt,p1,p2,p3,p4,l2,l3,l4,g1',g2',g3'];exact k1 rfl
   .have g2':(x.num.length:Int)>45:=aa;have e0:Bp x=false:=by simp[Bp,g2]
    rw[e0,Wx]at k1;simp(disch:=try exact ac)[l1,hlt,p1,p2,p3,p4,l2,l3,l4,g1',g2'];exact k1 rfl
  .have g1':(x.iv.length:Int)>8:=aa;have e0:Bp x=false:=by simp[Bp,g1]
   rw[e0,Wx]at k1;simp(disch:=try exact ac)[l1,hlt,p1,p2,p3,p4,l2,l3,l4,g1'];exact k1 rfl
theorem KO(l:List Tg):CP Y F.fY [tgs l] (B (tB l)):=by
 refine xf ?_;have l1:aW (tgs l)=some (I l.length):=rfl;simp only[fY]
 have run:l.length<1000->(decide (l.length<=4)||(decide (60<=l.length)&&decide (l.length<=62)))=true->lp (ip (CX Y) (tgs l)) [] [] [I 0] [] (exK [((.exit 0),fun l12 h=>out (B (tB l)) (.d (.bool true)) h),(.ret,fun l12 h=>out (B (tB l)) (ge l12 0) h)]):=fun h1 h2=>by
  have:=KP (exK [((.exit 0),fun l12 h=>out (B (tB l)) (.d (.bool true)) h),(.ret,fun l12 h=>out (B (tB l)) (ge l12 0) h)]) l [] (by simpa using h1)
   (fun g=>cx (by unfold tB;rw[h2,g];rfl)) (fun g=>cx (by unfold tB;rw[h2,g];rfl))
  simpa using this
 by_cases g1:l.length<=4
 .have g1':¬(l.length:Int)>4:=aa;simp(disch:=try exact ac)[l1,g1'];exact lo (run aa (by simp[g1]))
 .have g1':(l.length:Int)>4:=aa;by_cases g2:60<=l.length
  .have g2':¬(l.length:Int)<60:=aa;by_cases g3:l.length<=62
   .have g3':¬(l.length:Int)>62:=aa;simp(disch:=try exact ac)[l1,g1',g2',g3'];exact lo (run aa (by simp[g2,g3]))
   .have g3':(l.length:Int)>62:=aa;simp(disch:=try exact ac)[l1,g1',g2',g3'];exact cx (by simp[tB,g1,g3])
  .have g2':(l.length:Int)<60:=aa;simp(disch:=try exact ac)[l1,g1',g2'];exact cx (by simp[tB,g1,g2])
theorem H4(z:Int){b:Nat}(hb:0<b):z.fdiv (-(b:Int))=(-z)/(b:Int)∧z.fmod (-(b:Int)) = -((-z)%(b:Int)):=by
 have e:z.fdiv (-(b:Int))=(-z)/(b:Int):=by
  rw[<-Int.fdiv_eq_ediv_of_nonneg (-z) (by omega:(0:Int)<=(b:Int)),<-Int.neg_fdiv_neg (-z) (b:Int),Wi]
 refine⟨e,?_⟩;rw[Int.fmod_def,e];have:=Int.mul_ediv_add_emod (-z) (b:Int);rw[Int.neg_mul];omega
theorem KQ(x y:Int)(hy:y≠0):(x.fdiv y).natAbs<=x.natAbs:=by
 by_cases h:0<y
 .rw[Int.fdiv_eq_ediv_of_nonneg _ aa];exact Int.natAbs_ediv_le_natAbs ..
 .obtain⟨b,hb⟩:∃b:Nat,b=y.natAbs:=⟨_,rfl⟩;have e:y = -(b:Int):=aa;rw[e,(H4 x (b:=b) aa).1];have:=Int.natAbs_ediv_le_natAbs (-x) (b:Int)
  rwa [Xf]at this
theorem UY{z:Int}{b:Nat}(hb:0<b)(hz:ndg z.natAbs<900000)(hbd:ndg b<900000):
   cal (CX Y).p [] (.fn F.aU [] []) [S (itoa z)] fun v7 h=>
   ext v7 0 fun v8=>
   ext v7 1 fun v9=>
   cal (CX Y).p h (.fn F.aU [] []) [S (itoa (-(b:Int)))] fun v10 h=>
   ext v10 0 fun v11=>
   ext v10 1 fun v12=>
   cal (CX Y).p h (.fn F.dV [] []) [v9,v12] fun v13 h=>
   ext v13 0 fun v14=>
   ext v13 1 fun v15=>
   ext v13 2 fun v16=>
   bnd (biI .neq v16 (.d (.int .i64 0))) fun v17=>
   cnd v17 (
    out (.tup [S (itoa ((-z)/b)),S (itoa (-((-z)%b))),I 0]) (.tup [(.d (.str [])),(.d (.str [])),v16]) h) (
    bnd (biB .neq v8 v11) fun v18=>
    gd v18 true h (fun q=>q v15 h) fun v19 h=>
    gd v18 true h (fun q=>bnd (biS .neq v19 (.d (.str [48]))) fun v=>q v h) fun v20 h=>
    bnd (oM v18 v20 (.d (.bool false))) fun v21=>
    jn (fun l22 h=>
     bnd (biB .neq v8 v11) fun v24=>
     cal (CX Y).p h (.fn F.b9 [] []) [v24,(ge l22 0)] fun v25 h=>
     cal (CX Y).p h (.fn F.b9 [] []) [v11,(ge l22 1)] fun v26 h=>
     out (.tup [S (itoa ((-z)/b)),S (itoa (-((-z)%b))),I 0]) (.tup [v25,v26,(.d (.int .i64 0))]) h) fun q23=>
     cnd v21 (
      cal (CX Y).p h (.fn F.fM [] []) [v14,(.d (.str [49]))] fun v27 h=>
      cal (CX Y).p h (.fn F.gF [] []) [v12,v15] fun v28 h=>
      ext v28 0 fun v29=>
      ext v28 1 fun v30=>
      q23 [v27,v29] h) (
      q23 [v14,v15] h)):=by
 have hq:ndg (z.natAbs/b)<=ndg z.natAbs:=cJ (Yt ..);have hr:z.natAbs%b<b:=Y1 _ hb;have hr2:ndg (z.natAbs%b)<=ndg b:=cJ aa;have eb:∀x y:Bool,biB .neq (B x) (B y)=some (B (x !=y)):=fun _ _=>rfl
 have sb:=oI (-(b:Int));rw[decide_eq_true (by omega : -(b:Int)<0),show(-(b:Int)).natAbs=b by omega]at sb;simp;refine cd (oI z) ?_;simp;refine cd sb ?_;simp;refine cd (wn (a:=z.natAbs) hb aa aa) ?_;by_cases hneg:z<0
 .have ez : -z=(z.natAbs:Int):=aa;rw[decide_eq_true hneg];simp[eb];refine gv (l:=[S (ah (z.natAbs/b)),S (ah (z.natAbs%b))]) (h:=[]) (fun q=>by simp) ?_;simp[eb];refine cd (gD false (n:=z.natAbs/b) aa) ?_;simp;refine cd (gD true (n:=z.natAbs%b) aa) ?_;refine og ?_ ?_
  .rw[ez,<-Int.natCast_ediv];rfl
  .rw[ez,<-Int.natCast_emod];rfl
 .have ez : -z = -(z.natAbs:Int):=aa;obtain⟨d1,d2⟩:=uj (a:=z.natAbs) hb;rw[<-ez]at d1 d2;rw[decide_eq_false hneg];by_cases h0:z.natAbs%b=0
  .rw[if_pos h0]at d1 d2;rw[h0,dS];simp[eb];refine gv (l:=[S (ah (z.natAbs/b)),S [48]]) (h:=[]) (fun q=>by simp) ?_;simp[eb];refine cd (gD true (n:=z.natAbs/b) aa) ?_;simp;have j0:=gD true (n:=0) (by grind);rw[dS]at j0;refine cd j0 ?_;refine og ?_ ?_
   .rw[d1];rfl
   .rw[d2];rfl
  .rw[if_neg h0]at d1 d2;have h48:¬ah (z.natAbs%b)=[48]:=fun h=>h0 (jR.1 h)
   have ad:=xB (a:=z.natAbs/b) (b:=1) aa (by simp[tX]);rw[show ah 1=[49] by decide+kernel]at ad;simp[eb,h48];refine bB ?_;simp[h48];refine cd ad ?_;simp;refine cd (wq (a:=b) (b:=z.natAbs%b) aa aa) ?_;simp[eb];have hq1:ndg (z.natAbs/b+1)<=900000+1:=rW aa (by simp[tX])
   refine cd (gD true (n:=z.natAbs/b+1) aa) ?_;simp;refine cd (gD true (n:=b-z.natAbs%b) (Zj (cJ (Nat.sub_le ..)) aa)) ?_;refine og ?_ ?_
   .rw[d1];rfl
   .rw[d2];rfl
theorem LK{z:Int}{b:Nat}(hb:0<b)(hz:ndg z.natAbs<900000)(hbd:ndg b<900000):CP Y F.bc [S (itoa z),S (itoa (-(b:Int)))] (.tup [S (itoa ((-z)/b)),S (itoa (-((-z)%b))),I 0]):=by
 refine uU ?_;have l1:=oA z 18 af;have l2:=oA (-(b:Int)) 18 af;have tl:=UY hb hz hbd
 have h48:¬itoa (-(b:Int))=[48]:=fun h=>by
  have:=vy (h.trans (show[48]=itoa 0 by decide+kernel));omega
 simp[bc,h48];refine cd l1 ?_;by_cases h1:sdg z<=18
 .rw[if_pos h1];by_cases h2:sdg (-(b:Int))<=18
  .rw[if_pos h2]at l2;simp;refine bB ?_;simp;refine cd l2 ?_;have b1:=rQ h1;have b2:=rQ h2;simp only[Nat.reducePow]at b1 b2;have hbz:¬(-(b:Int))=0:=aa;have eb:∀x y:Bool,biB .neq (B x) (B y)=some (B (x !=y)):=fun _ _=>rfl
   obtain⟨n,hn⟩:=nmQ (z.natAbs);rw[<-hn]at b1;have hq:n/b<=n:=Yt ..;have hr:n%b<b:=Y1 _ hb;have ym:(-(b:Int))<0:=aa;by_cases hneg:z<0
   .have ez:z = -(n:Int):=aa;have q1:z.tdiv (-(b:Int))=((n/b:Nat):Int):=by rw[ez,Int.neg_tdiv,Int.tdiv_neg,Wi,Zv aa,<-Int.natCast_ediv]
    have q2:z.tmod (-(b:Int)) = -((n%b:Nat):Int):=by rw[ez,Int.neg_tmod,Int.tmod_neg,Zw aa,<-Int.natCast_emod]
    have d1:(-z)/(b:Int)=((n/b:Nat):Int):=by rw[ez,Wi,<-Int.natCast_ediv]
    have d2:(-z)%(b:Int)=((n%b:Nat):Int):=by rw[ez,Wi,<-Int.natCast_emod]
    obtain⟨q,hqq⟩:=nmQ (n/b);obtain⟨r,hrr⟩:=nmQ (n%b);rw[<-hqq]at q1 d1 hq;rw[<-hrr]at q2 d2 hr
    have fin:∀h:Hp,cal (CX Y).p h (V.fn F.dF [] []) [I q] fun v45 h=>
      cal (CX Y).p h (V.fn F.dF [] []) [I (-(r:Int))] fun v46 h=>out (V.tup [S (itoa ((-z)/(b:Int))),S (itoa (-((-z)%(b:Int)))),I 0]) (V.tup [v45,v46,V.d (D.int IntKind.i64 0)]) h:=by
     intro h;simp;refine cd (kr (z:=(q:Int)) aa aa) ?_;simp;refine cd (kr (z:=-(r:Int)) aa aa) ?_;refine og ?_ ?_
     .rw[d1]
     .rw[d2]
    by_cases h0:r=0
    .subst h0;simp only[Int.natCast_zero,Int.neg_zero]at q2 fin;simp(disch:=try exact ac)[q1,q2,hbz];refine gv (l:=[I q,I 0]) (h:=[]) (fun q=>by simp) ?_;exact fin []
    .have r0:¬(-(r:Int))=0:=aa;have r1:(-(r:Int))<0:=aa;simp(disch:=try exact ac)[q1,q2,r0,r1,ym,eb,hbz];refine gv (l:=[I q,I (-(r:Int))]) (h:=[]) (fun q=>by simp(disch:=try exact ac)[r0,r1,ym,eb]) ?_;exact fin []
   .have ez:z=(n:Int):=aa;obtain⟨d1,d2⟩:=uj (a:=n) hb;rw[<-ez]at d1 d2;have q1:z.tdiv (-(b:Int)) = -((n/b:Nat):Int):=by rw[ez,Int.tdiv_neg,Zv aa,<-Int.natCast_ediv]
    have q2:z.tmod (-(b:Int))=((n%b:Nat):Int):=by rw[ez,Int.tmod_neg,Zw aa,<-Int.natCast_emod]
    obtain⟨q,hqq⟩:=nmQ (n/b);obtain⟨r,hrr⟩:=nmQ (n%b);rw[<-hqq]at q1 d1 hq;rw[<-hrr]at q2 d1 d2 hr;by_cases h0:r=0
    .rw[if_pos h0]at d1 d2;subst h0;simp only[Int.natCast_zero]at q2;simp(disch:=try exact ac)[q1,q2,hbz];refine gv (l:=[I (-(q:Int)),I 0]) (h:=[]) (fun q=>by simp) ?_;simp;refine cd (kr (z:=-(q:Int)) aa aa) ?_;simp;refine cd (kr (z:=0) aa aa) ?_;refine og ?_ ?_
     .rw[d1]
     .rw[d2];rfl
    .rw[if_neg h0]at d1 d2;have r0:¬((r:Int))=0:=aa;have r1:¬(r:Int)<0:=aa;simp(disch:=try exact ac)[q1,q2,r0,r1,ym,eb,hbz];refine gv (l:=[I (-(q:Int)-1),I ((r:Int) + -(b:Int))]) (h:=[]) (fun q=>by simp(disch:=try exact ac)[r0,r1,ym]) ?_;simp;refine cd (kr (z:=-(q:Int)-1) aa aa) ?_;simp
     refine cd (kr (z:=(r:Int) + -(b:Int)) aa aa) ?_;refine og ?_ ?_
     .rw[d1];congr 1;omega
     .rw[d2];congr 1;omega
  .rw[if_neg h2]at l2;simp;refine bB ?_;simp;refine cd l2 ?_;simp;exact tl
 .rw[if_neg h1];simp;refine bB ?_;simp;exact tl
theorem IQ{z w:Int}(hw0:w≠0)(hz:ndg z.natAbs<900000)(hw:ndg w.natAbs<900000):CP Y F.bc [S (itoa z),S (itoa w)] (.tup [S (itoa (z.fdiv w)),S (itoa (z.fmod w)),I 0]):=by
 by_cases h:0<w
 .rw[Int.fdiv_eq_ediv_of_nonneg _ aa,Int.fmod_eq_emod_of_nonneg _ aa];exact Rn h hz hw
 .obtain⟨b,hb⟩:∃b:Nat,b=w.natAbs:=⟨_,rfl⟩;have e:w = -(b:Int):=aa;rw[<-hb]at hw;rw[e,(H4 z (b:=b) aa).1,(H4 z (b:=b) aa).2];exact LK aa hz hw
theorem VU{z w:Int}(hz:ndg z.natAbs<999999)(hw:ndg w.natAbs<999999):CP Y F.qP [S (itoa z),S (itoa w)] (S (itoa (z-w))):=by refine IJ ?_;simp[qP];refine cd (yg aa) ?_;simp;refine cd (sV hz (by simpa using hw)) ?_;exact eU (by rw[Int.sub_eq_add_neg])
def sI(z:Int):D:=.str (itoa z)
theorem Si(P M Q:List α){x:α}(hj:j<M.length):(P++M++Q).take (P.length+j)++[x]++(P++M++Q).drop (P.length+j+1)=P++M.set j x++Q:=by
 obtain⟨a,y,c,rfl,rfl⟩:∃a y c,M=a++y::c∧j=a.length:=⟨M.take j,M[j],M.drop (j+1),ae,aG⟩
 rw [show P++(a++y::c)++Q=((P++a)++[y])++(c++Q) by simp,show P.length+a.length+1=((P++a)++[y]).length by simp only[List.length_append,List.length_cons,List.length_nil],List.drop_left,
  show((P++a)++[y])++(c++Q)=(P++a)++(y::(c++Q)) by simp,show P.length+a.length=(P++a).length by simp,Wu]
 simp
structure RwL where
 s:Nat
 e:Nat
 pre:LdQ
 post:LdQ
 ex:Bool
 cap:Nat
 r:LiQ
def RwL.z:RwL:=⟨0,0,[],[],false,0,[]⟩
def RwL.w(R:RwL)(r:LiQ):RwL:={R with r:=r}
def RwL.tot(R:RwL):Nat:=R.pre.length+R.r.length+R.post.length
def RwL.v(R:RwL):V:=.ref R.s R.e R.pre.length R.r.length R.cap R.tot
def RwL.p(R:RwL)(j:Nat):V:=.ptr R.s R.e (R.pre.length+j) R.tot
def RwL.k(R:RwL):Nat×Bk:=(R.e,.data 1 (R.pre++R.r.map sI++R.post) R.ex false)
variable{h:Hp}{R:RwL}
theorem RwL.get(hR:h[R.s]?=some R.k):aC h R.s R.e=.data 1 (R.pre++R.r.map sI++R.post) R.ex false:=by simp[aC,hR,RwL.k]
theorem RwL.tl(R:RwL):R.tot=(R.pre++R.r.map sI++R.post).length:=by simp[RwL.tot];omega
theorem Sq(R:RwL):aW R.v=some (I R.r.length):=rfl
theorem Jv(hR:h[R.s]?=some R.k)(hj:j<R.r.length):ixV h 1 R.v (I j)=some (R.p j):=by simp only[RwL.v,ixV,RwL.get hR];rw[if_pos ⟨R.tl,aa,aa⟩];simp[RwL.p]
theorem NN(hR:h[R.s]?=some R.k)(hj:j<R.r.length):ld1 h (R.p j)=some (S (itoa (nth 0 R.r j))):=by
 simp only[RwL.p,ld1,RwL.get hR];rw[if_pos R.tl]
 have:(R.pre++R.r.map sI++R.post)[R.pre.length+j]?=some (sI (nth 0 R.r j)):=by
  rw[List.append_assoc,List.getElem?_append_right aa,List.getElem?_append_left aG];simp[dQ _ _ _ hj,List.getElem?_eq_getElem hj]
 rw[this];rfl
theorem Sp(hR:h[R.s]?=some R.k)(hj:j<R.r.length)(z:Int):st h 1 (R.p j) (S (itoa z))=some (h.set R.s (R.w (R.r.set j z)).k):=by simp only[RwL.p,st,if_true,sto,RwL.get hR,ly,toD,norm];rw[if_pos ⟨trivial,R.tl,aG⟩];simp only[cw,RwL.k,RwL.w];congr 4;have:=Si R.pre (R.r.map sI) R.post (x:=sI z) (j:=j) (by simpa using hj);rw[show R.pre.length+j + [D.str (itoa z)].length=R.pre.length+j+1 by simp];rw[Xk];exact this
theorem RwL.set_get{R':RwL}(hR:h[R.s]?=some R.k)(hs:R'.s=R.s):(h.set R.s R'.k)[R'.s]?=some R'.k:=by rw[hs,List.getElem?_set_self (List.getElem?_eq_some_iff.1 hR).1]
theorem RwL.set_ne{T:RwL}{x:Nat×Bk}(hT:h[T.s]?=some T.k){s:Nat}(hs:s≠T.s):(h.set s x)[T.s]?=some T.k:=by rw[List.getElem?_set_ne hs];exact hT
theorem wz{h:Hp}{b s:Nat}{x:Nat×Bk}(hu:(h.all fun x=>aN b x.2)=true)(hx:aN b x.2=true):((h.set s x).all fun x=>aN b x.2)=true:=by
 simp only[Z2]at *;intro y hy;rcases Yz hy with hy|rfl
 .exact hu y hy
 .exact hx
theorem RwL.u(R:RwL)(b:Nat):aN b R.k.2=true:=rfl
def bdE(B:Nat)(l:LiQ):Prop:=∀x∈l,x.natAbs<10^B
theorem yR{B:Nat}{l:LiQ}(h:bdE B l)(j:Nat):(nth 0 l j).natAbs<10^B:=by
 by_cases hj:j<l.length
 .rw[dQ _ _ _ hj];exact h _ (X3 hj)
 .have:nth 0 l j=0:=by simp[nth,List.getElem?_eq_none (by omega:l.length<=j)]
  rw[this];exact X6 af
theorem vK{B:Nat}(hB:B<=100000){x:Int}(h:x.natAbs<10^B):ndg x.natAbs<=100001:=
 Zu (cQ (d:=B+1) (Z3 h (Z4 af (Nat.le_succ B))) aa) aa
theorem CS(k:Int)(a b:LiQ)(h:a.length=b.length):(te k a b).length=a.length:=by simp[te,h]
section
variable{R T:RwL}{h:Hp}{k:Int}{B:Nat}
theorem Oz(hB:B<=100000)(hT:h[T.s]?=some T.k)(hR:h[R.s]?=some R.k)(hne:R.s≠T.s)(hk:ndg k.natAbs<=100002)(bT:bdE B T.r)(hl:R.r.length=T.r.length)(hL:R.r.length<1000000)(b:Nat)(h0:Hp)(hh:h0.length=h.length)(K:KL) :
  ∀(rq rp:LiQ)(tp tq:LiQ),tp++tq=T.r->rp.length=tp.length->rq.length=tq.length->bdE B rq->rp.length+rq.length=R.r.length ->
  K (.exit 0) [] (h.set R.s (R.w (rp++te k rq tq)).k) ->
  lp (jK (CX Y) b R.v (S (itoa k)) T.v (I T.r.length)) [] h0 [I rp.length] (h.set R.s (R.w (rp++rq)).k) K
 | [],rp,tp,tq,ht,h1,h2,bR,hn,hK=>by
  refine ai ?_;have hlt:¬((rp.length:Int)<(T.r.length:Int)):=by simp at hn;omega
  have:tq=[]:=Zq (by simpa using h2.symm);subst this;simp only[jK];simp(disch:=try exact ac)[hlt];simpa[te]using hK
 |x::rq,rp,tp,[],ht,h1,h2,bR,hn,hK=>by simp at h2
 | x::rq,rp,tp,y::tq,ht,h1,h2,bR,hn,hK=>by
  refine ai ?_;have hlt:((rp.length:Int)<(T.r.length:Int)):=by simp at hn;omega
  obtain⟨H,hH⟩:∃H,H=h.set R.s (R.w (rp++x::rq)).k:=⟨_,rfl⟩;have gR:H[R.s]?=some (R.w (rp++x::rq)).k:=by rw[hH];exact RwL.set_get hR rfl
  have gT:H[T.s]?=some T.k:=by rw[hH];exact RwL.set_ne hT hne
  have vR:R.v=(R.w (rp++x::rq)).v:=by simp[RwL.v,RwL.w,RwL.tot]at hn ⊢;omega
  have jl:rp.length<T.r.length:=by simp at hn;omega
  have jr:rp.length<(R.w (rp++x::rq)).r.length:=by simp[RwL.w]
  have nT:nth 0 T.r rp.length=y:=by rw[<-ht,h1];simp
  have nR:nth 0 (R.w (rp++x::rq)).r rp.length=x:=by simp[RwL.w]
  have i1:=Jv gT jl;have i2:=NN gT jl;have i3:=Jv gR jr;have i4:=NN gR jr;rw[nT]at i2;rw[nR]at i4;have i5:=Sp gR jr (x-k*y);have bx:ndg x.natAbs<=100001:=vK hB (bR x ae);have by_:ndg y.natAbs<=100001:=vK hB (bT y (by rw[<-ht];simp));have bm:=jH (z:=k) (w:=y);rw[<-hH,vR];simp only[jK]
  simp(disch:=try exact ac)[hlt,i1,i2,i3,i4];refine cd (qY (z:=k) (w:=y) aa aa) ?_;simp(disch:=try exact ac);refine cd (VU (z:=x) (w:=k*y) aa aa) ?_;simp(disch:=try exact ac)[i3,i5];rw[rD 0 h0 _ (by simp[hH,hh]),<-vR];refine lo ?_
  have e1:H.set (R.w (rp++x::rq)).s ((R.w (rp++x::rq)).w ((R.w (rp++x::rq)).r.set rp.length (x-k*y))).k=h.set R.s (R.w ((rp++[x-k*y])++rq)).k:=by
   rw[hH];simp[RwL.w]
  rw[e1];have ih:=Oz hB hT hR hne hk bT hl hL b h0 hh K rq (rp++[x-k*y]) (tp++[y]) tq (by simp[ht]) (by simp[h1]) (by simpa using h2) (fun z hz=>bR z (by simp[hz])) (by simp at hn ⊢;omega) (by simpa[te]using hK);simpa using ih
theorem TE(hR:h[R.s]?=some R.k)(hB:B<=100000)(hL:R.r.length<1000000)(b:Nat)(h0:Hp)(hh:h0.length=h.length)(K:KL) :
  ∀(rq rp:LiQ),bdE B rq->rp.length+rq.length=R.r.length ->
  K (.exit 0) [] (h.set R.s (R.w (rp++rq.map (- ·))).k) ->
  lp (iB (CX Y) b R.v R.v (I R.r.length)) [] h0 [I rp.length] (h.set R.s (R.w (rp++rq)).k) K
 | [],rp,bR,hn,hK=>by
  refine ai ?_;have hlt:¬((rp.length:Int)<(R.r.length:Int)):=by simp at hn;omega
  simp only[iB];simp(disch:=try exact ac)[hlt];simpa using hK
 | x::rq,rp,bR,hn,hK=>by
  refine ai ?_;have hlt:((rp.length:Int)<(R.r.length:Int)):=by simp at hn;omega
  obtain⟨H,hH⟩:∃H,H=h.set R.s (R.w (rp++x::rq)).k:=⟨_,rfl⟩;have gR:H[R.s]?=some (R.w (rp++x::rq)).k:=by rw[hH];exact RwL.set_get hR rfl
  have vR:R.v=(R.w (rp++x::rq)).v:=by simp[RwL.v,RwL.w,RwL.tot]at hn ⊢;omega
  have jr:rp.length<(R.w (rp++x::rq)).r.length:=by simp[RwL.w]
  have nR:nth 0 (R.w (rp++x::rq)).r rp.length=x:=by simp[RwL.w]
  have i3:=Jv gR jr;have i4:=NN gR jr;rw[nR]at i4;have i5:=Sp gR jr (-x);have bx:ndg x.natAbs<=100001:=vK hB (bR x ae);rw[<-hH,vR];simp only[iB];simp(disch:=try exact ac)[hlt,i3,i4];refine cd (yg (z:=x) aa) ?_;simp(disch:=try exact ac)[i3,i5];rw[rD 0 h0 _ (by simp[hH,hh]),<-vR];refine lo ?_
  have e1:H.set (R.w (rp++x::rq)).s ((R.w (rp++x::rq)).w ((R.w (rp++x::rq)).r.set rp.length (-x))).k=h.set R.s (R.w ((rp++[-x])++rq)).k:=by
   rw[hH];simp[RwL.w]
  rw[e1];have ih:=TE hR hB hL b h0 hh K rq (rp++[-x]) (fun z hz=>bR z (by simp[hz])) (by simp at hn ⊢;omega) (by simpa using hK);simpa using ih
theorem PV(a b:LiQ)(h:a.length=b.length):te 0 a b=a:=by
 induction a generalizing b with
 |nil=>simp[te]
 | cons x a ih=>
  cases b with
  |nil=>simp at h
  | cons y b=>
   have:=ih b (by simpa using h);simp[te]at this ⊢;exact this
theorem RwL.set_same(hR:h[R.s]?=some R.k):h.set R.s (R.w R.r).k=h:=by
 apply Yh;intro i;by_cases hi:R.s=i
 .subst hi;rw[List.getElem?_set_self (List.getElem?_eq_some_iff.1 hR).1,hR];rfl
 .rw[List.getElem?_set_ne hi]
theorem Kf(hB:B<=100000)(hT:h[T.s]?=some T.k)(hR:h[R.s]?=some R.k)(hne:R.s≠T.s)(hk:ndg k.natAbs<=100002)(bT:bdE B T.r)(bR:bdE B R.r)(hl:R.r.length=T.r.length)(hL:R.r.length<1000000)
  (hu:(h.all fun x=>aN h.length x.2)=true):CI Y F.eu [R.v,S (itoa k),T.v] h (.tup []) (h.set R.s (R.w (te k R.r T.r)).k):=by
 refine wL ?_
 have fin:mW h.length (.tup []) (h.set R.s (R.w (te k R.r T.r)).k) (.tup []) (h.set R.s (R.w (te k R.r T.r)).k):=
  ⟨by rw[Zz ae],wz hu (RwL.u _ _),.inl ⟨rfl,rfl⟩⟩
 simp only[eu,List.replicate_zero,Zo];by_cases h0:k=0
 .subst h0;have:itoa 0=[48]:=aF;rw[PV _ _ hl,RwL.set_same hR]at fin ⊢;simp(disch:=try exact ac)[this];exact fin
 .have h48:¬itoa k=[48]:=fun e=>h0 (vy (e.trans (show[48]=itoa 0 by decide+kernel)))
  have:=Oz hB hT hR hne hk bT hl hL h.length h rfl (exK [((.exit 0),fun l3 h'=>mW h.length (.tup []) (h.set R.s (R.w (te k R.r T.r)).k) (.tup []) h')]) R.r [] [] T.r rfl rfl hl bR ae (by simpa using fin);rw[List.nil_append,RwL.set_same hR]at this;simp(disch:=try exact ac)[h48,Sq T];exact lo this
theorem MK(hB:B<=100000)(hR:h[R.s]?=some R.k)(bR:bdE B R.r)(hL:R.r.length<1000000)(hu:(h.all fun x=>aN h.length x.2)=true):
  CI Y F.ek [R.v] h (.tup []) (h.set R.s (R.w (R.r.map (- ·))).k):=by
 refine uD ?_
 have fin:mW h.length (.tup []) (h.set R.s (R.w (R.r.map (- ·))).k) (.tup []) (h.set R.s (R.w (R.r.map (- ·))).k):=
  ⟨by rw[Zz ae],wz hu (RwL.u _ _),.inl ⟨rfl,rfl⟩⟩
 simp only[ek,List.replicate_zero,Zo];have:=TE hR hB hL h.length h rfl (exK [((.exit 0),fun l3 h'=>mW h.length (.tup []) (h.set R.s (R.w (R.r.map (- ·))).k) (.tup []) h')]) R.r [] bR ae (by simpa using fin);rw[List.nil_append,RwL.set_same hR]at this;simp(disch:=try exact ac)[Sq R];exact lo this
end
theorem vn{s:Nat}(h:∀t∈clr,t≠s):gN clr s=true:=by
 induction clr with
 |nil=>rfl
 | cons t l ih=>
  rw[Dk,beq_lit,decide_eq_false (h t ae),ih fun u hu=>h u (by grind)];rfl
theorem LL{b:Nat}(hc:∀t∈clr,b<=t):∀x:V,under b x=true->qe clr x=true:=by
 intro x
 induction x using V.rec (motive_2:=fun l=>jt b l=true->iZ clr l=true)with
 |agg l ih=>trivial
 |tup l ih=>trivial
 | fn g a c iha ihc=>
  grind[under,qe]
 |ifc t x ih=>trivial
 |nil=>rfl
 | cons x l ih ihl h=>
  grind[jt,iZ]
 | ref s e off len cap tot=>
  intro h;have:s<b:=by simpa[under,Xc]using h
  exact vn fun t ht=>by grind
 | ptr s e off tot=>
  intro h;have:s<b:=by simpa[under,Xc]using h
  exact vn fun t ht=>by grind
 |_=>intro _;rfl
theorem AA{clr:LnQ}{b:Nat}(hc:∀t∈clr,b<=t):∀l:LwQ,jt b l=true->iZ clr l=true
 |[],_=>rfl
 | x::l,h=>by
  simp only[jt,Z8]at h;simp only[iZ,LL hc x h.1,AA hc l h.2,Yb]
theorem LM{b:Nat}(hc:∀t∈clr,b<=t)(x:Bk)(h:aN b x=true):offB clr x=true:=by
 cases x with
 |vars l=>exact AA hc l h
 |_=>rfl
theorem JY{clr:LnQ}{b:Nat}(hc:∀t∈clr,b<=t):∀(h t:Hp)(i:Nat),(h.all fun x=>aN b x.2)=true->o6 clr (i+h.length) t=true->o6 clr i (h++t)=true
 |[],t,i,_,ht=>ht
 | x::h,t,i,hu,ht=>by
  simp only[List.all_cons,Z8]at hu;rw[List.cons_append,wc,LM hc _ hu.1,Bool.or_true,Yw];refine JY hc h t (i+1) hu.2 ?_;rw[List.length_cons]at ht;rw[show i+1+h.length=i+(h.length+1) by omega];exact ht
theorem tf{clr:LnQ}{b:Nat}(hc:∀t∈clr,b<=t):∀(i:Nat)(h0 h:Hp),h.length=h0.length->(∀s,b<=i+s->s<h.length->h[s]?=some nnQ∧h0[s]?=some nnQ)->aR clr i h0 h=h
 |_,[],[],_,_=>rfl
 |_,[],_::_,hl,_=>by simp at hl
 |_,_::_,[],hl,_=>by simp at hl
 | i,x0::h0,x::h,hl,hs=>by
  rw [pN,tf hc (i+1) h0 h (by simpa using hl) (fun s hb hlt=>by
   have:=hs (s+1) aa (by simpa using hlt);simpa using this)]
  split
  .rfl
  .rename_i hn
   have hb:b<=i:=by
    refine Classical.byContradiction fun hlt=>hn (vn fun t ht=>?_)
    have:=hc t ht;omega
   have:=hs 0 aa ae;simp at this;rw[this.1,this.2]
theorem tV{b:Nat}(hc:∀t∈clr,b<=t){h:Hp}(hu:(h.all fun x=>aN b x.2)=true)(i:Nat):o6 clr i h=true:=by have:=JY hc h [] i hu (by simp[o6]);simpa using this
structure Tr(b:Nat)(gh:Hp)(h:Hp)(so eo L:Nat)(m:List RwL):Prop where
 o:h[so]?=some (eo,.vars (m.map RwL.v))
 r:∀i,i<m.length->h[(nth RwL.z m i).s]?=some (nth RwL.z m i).k
 nd:∀i j,i<m.length->j<m.length->i≠j->(nth RwL.z m i).s≠(nth RwL.z m j).s
 no:∀i,i<m.length->(nth RwL.z m i).s≠so
 ln:∀i,i<m.length->(nth RwL.z m i).r.length=L
 fr:∀s,s≠so->(∀i,i<m.length->(nth RwL.z m i).s≠s)->h[s]?=gh[s]?
 so:so<b
 sb:∀i,i<m.length->(nth RwL.z m i).s<b
 u:(h.all fun x=>aN b x.2)=true
 bl:b<=h.length
 ow:∀s,b<=s->s<h.length->h[s]?=some nnQ
def ouV(so eo n:Nat):V:=.ref so eo 0 n n n
def ouP(so eo n i:Nat):V:=.ptr so eo i n
abbrev eX:=xx RwL.z RwL.r
abbrev nR(m:List RwL)(i:Nat):RwL:=nth RwL.z m i
theorem jG(d:α)(l:List α)(i j:Nat)(x:α)(h:i<l.length):nth d (l.set i x) j=if j=i then x else nth d l j:=by
 by_cases e:j=i
 .subst e;simp[nth,h]
 .simp[nth,List.getElem?_set_ne (Ne.symm e),e]
theorem Of(f:α->β)(d:α)(l:List α)(i:Nat)(h:i<l.length):(l.map f)[i]?=some (f (nth d l i)):=by simp[nth,h]
theorem We(d:α)(l:List α)(i:Nat)(h:i<l.length):l.set i (nth d l i)=l:=by simp[nth,h]
variable{b so eo L:Nat}{m:List RwL}{gh h:Hp}
theorem vO{b c:Nat}(hbc:b<=c){h:Hp}(hu:(h.all fun x=>aN b x.2)=true):(h.all fun x=>aN c x.2)=true:=by simp only[Z2]at *;exact fun x hx=>vP hbc (hu x hx)
theorem Tr.hu(T:Tr b gh h so eo L m):(h.all fun x=>aN h.length x.2)=true:=vO T.bl T.u
theorem Tr.get(T:Tr b gh h so eo L m):aC h so eo=.vars (m.map RwL.v):=by simp[aC,T.o]
theorem Tr.ix(T:Tr b gh h so eo L m)(hi:i<m.length):ixV h 1 (ouV so eo m.length) (I i)=some (ouP so eo m.length i):=by simp only[ouV,ixV,T.get];rw[if_pos ⟨ae,aa,aa⟩];simp[ouP]
theorem Tr.ld(T:Tr b gh h so eo L m)(hi:i<m.length):ld1 h (ouP so eo m.length i)=some (nR m i).v:=by simp only[ouP,ld1,T.get];rw[if_pos ae,Of _ RwL.z _ _ hi]
theorem Tr.ix2(T:Tr b gh h so eo L m){c:Nat}(hi:i<m.length)(hc:c<L):ixV h 1 (nR m i).v (I c)=some ((nR m i).p c):=Jv (T.r i hi) (by rw[T.ln i hi];exact hc)
theorem Tr.ld2(T:Tr b gh h so eo L m){c:Nat}(hi:i<m.length)(hc:c<L):ld1 h ((nR m i).p c)=some (S (itoa (eX m i c))):=NN (T.r i hi) (by rw[T.ln i hi];exact hc)
theorem RwL.w_v(R:RwL){r:LiQ}(hr:r.length=R.r.length):(R.w r).v=R.v:=by simp[RwL.v,RwL.w,RwL.tot,hr]
theorem Tr.row(T:Tr b gh h so eo L m)(hi:i<m.length){r:LiQ}(hr:r.length=L):Tr b gh (h.set (nR m i).s ((nR m i).w r).k) so eo L (m.set i ((nR m i).w r)) where
 o:=by
  rw[List.getElem?_set_ne (T.no i hi),T.o,Xk,RwL.w_v _ (by rw[hr];exact(T.ln i hi).symm)];congr 3;rw[<-Xk,We _ _ _ hi]
 r:=fun j hj=>by
  rw[Y9]at hj;rw[jG _ _ _ _ _ hi];by_cases e:j=i
  .rw[if_pos e];exact RwL.set_get (R:=nR m i) (T.r i hi) rfl
  .rw[if_neg e];exact RwL.set_ne (T.r j hj) (T.nd i j hi hj (Ne.symm e))
 nd:=fun j k hj hk hjk=>by
  rw[Y9]at hj hk;rw[jG _ _ _ _ _ hi,jG _ _ _ _ _ hi];by_cases e:j=i
  .subst e;rw[if_pos rfl,if_neg (Ne.symm hjk)];exact T.nd _ k hi hk hjk
  .rw[if_neg e];by_cases e2:k=i
   .subst e2;rw[if_pos rfl];exact T.nd j _ hj hi hjk
   .rw[if_neg e2];exact T.nd j k hj hk hjk
 no:=fun j hj=>by
  rw[Y9]at hj;rw[jG _ _ _ _ _ hi];split
  .exact T.no i hi
  .exact T.no j hj
 ln:=fun j hj=>by
  rw[Y9]at hj;rw[jG _ _ _ _ _ hi];split
  .exact hr
  .exact T.ln j hj
 so:=T.so
 sb:=fun j hj=>by
  rw[Y9]at hj;rw[jG _ _ _ _ _ hi];split
  .exact T.sb i hi
  .exact T.sb j hj
 u:=wz T.u rfl
 bl:=by rw[Y9];exact T.bl
 ow:=fun s hs hl=>by
  rw[Y9]at hl;have:(nR m i).s<b:=T.sb i hi;rw[List.getElem?_set_ne aa];exact T.ow s hs hl
 fr:=fun s hs hne=>by
  have hall:∀j,j<m.length->(nth RwL.z m j).s≠s:=fun j hj=>by
   have:=hne j (by rw[Y9];exact hj);rw[jG _ _ _ _ _ hi]at this;by_cases e:j=i
   .subst e;rw[if_pos rfl]at this;exact this
   .rw[if_neg e]at this;exact this
  rw[List.getElem?_set_ne (hall i hi)];exact T.fr s hs hall
theorem adi(ho:h[so]?=some (eo,.vars cs))(hn:cs.length=n)(hi:i<n)(R:RwL):st h 1 (ouP so eo n i) R.v=some (h.set so (eo,.vars (cs.set i R.v))):=by
 have hg:aC h so eo=.vars cs:=by simp[aC,ho]
 simp only[ouP,RwL.v,st,if_true,sto,hg];rw[if_pos ⟨hn.symm,by simp only[List.length_cons,List.length_nil];omega,rfl⟩]
 have e:cs.set i (V.ref R.s R.e R.pre.length R.r.length R.cap R.tot)=cs.take i++[V.ref R.s R.e R.pre.length R.r.length R.cap R.tot]++cs.drop (i+1):=by
  rw[Yn,if_pos aa];simp
 rw[e];rfl
theorem lS{k:Nat}(hi:i<m.length)(hj:j<m.length)(hk:k<m.length):∃k',k'<m.length∧nth RwL.z (mB RwL.z m i j) k=nth RwL.z m k'∧k'=(if k=j then i else if k=i then j else k):=by
 refine⟨_,?_,?_,rfl⟩
 .split
  .exact hi
  .split
   .exact hj
   .exact hk
 .unfold mB;rw[jG _ _ _ _ _ (by simpa using hj)];split
  .rfl
  .rw[jG _ _ _ _ _ hi];split<;>rfl
theorem Tr.swap(T:Tr b gh h so eo L m)(hi:i<m.length)(hj:j<m.length):Tr b gh (h.set so (eo, .vars ((mB RwL.z m i j).map RwL.v))) so eo L (mB RwL.z m i j) where
  o:=List.getElem?_set_self (List.getElem?_eq_some_iff.1 T.o).1
  r :=fun k hk=>by
    rw[fD]at hk;obtain⟨k',h1,h2,_⟩:=lS hi hj hk;rw[h2,List.getElem?_set_ne (Ne.symm (T.no k' h1))];exact T.r k' h1
  nd :=fun k l hk hl hkl=>by
    rw[fD]at hk hl;obtain⟨k',h1,h2,h3⟩:=lS hi hj hk;obtain⟨l',h4,h5,h6⟩:=lS hi hj hl;rw[h2,h5];refine T.nd k' l' h1 h4 ?_;rw[h3,h6]
    repeat' split
    all_goals omega
  no :=fun k hk=>by
    rw[fD]at hk;obtain⟨k',h1,h2,_⟩:=lS hi hj hk;rw[h2];exact T.no k' h1
  ln :=fun k hk=>by
    rw[fD]at hk;obtain⟨k',h1,h2,_⟩:=lS hi hj hk;rw[h2];exact T.ln k' h1
  so:=T.so
  sb :=fun k hk=>by
    rw[fD]at hk;obtain⟨k',h1,h2,_⟩:=lS hi hj hk;rw[h2];exact T.sb k' h1
  u :=by
    refine wz T.u ?_
    have hv:∀l:List RwL,(∀R∈l,R.s<b)->jt b (l.map RwL.v)=true:=by
      intro l hl
      induction l with
      |nil=>rfl
      | cons R l ih=>
        simp only[Z1,jt,ih (fun x hx=>hl x (by simp[hx])),Yb];have:=hl R ae;simpa[RwL.v,under,Xc]using this
    refine hv _ fun R hR=> ?_
    obtain⟨k,hk,rfl⟩:=List.mem_iff_getElem.1 hR;have hk':k<m.length:=by simpa[mB]using hk
    obtain⟨k',h1,h2,_⟩:=lS hi hj hk';rw[<-dQ RwL.z _ _ hk,h2];exact T.sb k' h1
  bl:=by rw[Y9];exact T.bl
  ow :=fun s hs hl=>by
    rw[Y9]at hl;have:=T.so;rw[List.getElem?_set_ne aa];exact T.ow s hs hl
  fr :=fun s hs hne=>by
    have hall:∀k,k<m.length->(nth RwL.z m k).s≠s:=fun k hk=>by
      obtain⟨k',h1,h2,h3⟩:=lS (k:=if k=j then i else if k=i then j else k) hi hj (by split<;>(try split)<;>omega)
      have e : k' = k := by rw[h3];repeat' split
                            all_goals omega
      have:=hne _ (by rw[fD];show(if k=j then i else if k=i then j else k)<m.length;split<;>(try split)<;>omega);rw[h2,e]at this;exact this
    rw[List.getElem?_set_ne (Ne.symm hs)];exact T.fr s hs hall
theorem RL(hi:i<m.length)(hj:j<m.length):(((m.map RwL.v).set i (nR m j).v).set j (nR m i).v)=(mB RwL.z m i j).map RwL.v:=by simp[mB,Xk]
theorem Kr{a b:Nat}:Big.cmp a b<0↔a<b:=by unfold Big.cmp;split<;>(try split)<;>omega
theorem sX(z:Int):itoa z=[48]↔z=0:=by have e:[48]=itoa 0:=aF;rw[e];exact⟨fun h=>vy h,fun h=>by rw[h]⟩
theorem VB{Bd:Nat}(bd:∀i,i<m.length->bdE Bd (nR m i).r)(hB:Bd<=100000)(hi:i<m.length)(c:Nat):ndg (eX m i c).natAbs<=100001:=vK hB (yR (bd i hi) c)
variable{Bd c:Nat}
theorem ON(T:Tr b gh h so eo L m)(hc:c<L)(hB:Bd<=100000)(bd:∀i,i<m.length->bdE Bd (nR m i).r)(hm:m.length<1000000)(h0:Hp)(hh:h0.length=h.length)(K:KL) :
  ∀(r i:Nat)(a:Int),i+r=m.length->a<i->-1<=a->K (.exit 4) [I (atG RwL.z RwL.r c m r i a)] h ->
  lp (fR (CX Y) b (ouV so eo m.length) (I c)) [] h0 [I a,I i] h K
 | 0,i,a,hr,h1,h2,hK=>by
  refine ai ?_;have hlt:¬((i:Int)<(m.length:Int)):=aa;have l1:aW (ouV so eo m.length)=some (I m.length):=rfl;simp only[fR];simp(disch:=try exact ac)[l1,hlt];exact hK
 | r+1,i,a,hr,h1,h2,hK=>by
  refine ai ?_;have hlt:((i:Int)<(m.length:Int)):=aa;have l1:aW (ouV so eo m.length)=some (I m.length):=rfl;have hi:i<m.length:=aa;have i1:=T.ix hi;have i2:=T.ld hi;have i3:=T.ix2 hi hc;have i4:=T.ld2 hi hc;simp only[fR]
  have ih:=fun a' (h1:a'<((i+1:Nat):Int)) (h2 : -1<=a') (hk:K (.exit 4) [I (atG RwL.z RwL.r c m r (i+1) a')] h)=>ON T hc hB bd hm h0 hh K r (i+1) a' aa h1 h2 hk
  simp only[atG]at hK;have e1:((i+1:Nat):Int)=(i:Int)+1:=aa
  have fin:∀a':Int,a'<((i+1:Nat):Int)->-1<=a'->K (.exit 4) [I (atG RwL.z RwL.r c m r (i+1) a')] h ->
    rl (lp (fR (CX Y) b (ouV so eo m.length) (I c)) [] h0 [I a',.d (.int .i64 ((i:Int)+1))] h) K .mk:=fun a' x1 x2 hk=>by
   rw[<-e1];exact lo (ih a' x1 x2 hk)
  by_cases e0:eX m i c=0
  .have t0:=(sX (eX m i c)).2 e0;rw[if_neg (fun h=>h.1 e0)]at hK;simp(disch:=try exact ac)[l1,hlt];refine bB ?_;simp(disch:=try exact ac)[i1,i2,i3,i4,t0];refine bB ?_;simp(disch:=try exact ac);exact fin a aa h2 hK
  .have t0:¬itoa (eX m i c)=[48]:=fun h=>e0 ((sX _).1 h)
   by_cases a0:a<0
   .rw[if_pos ⟨e0,.inl a0⟩]at hK;simp(disch:=try exact ac)[l1,hlt];refine bB ?_;simp(disch:=try exact ac)[i1,i2,i3,i4,t0,a0];refine bB ?_;simp(disch:=try exact ac);exact fin i aa aa hK
   .obtain⟨n,rfl⟩:∃n:Nat,a=n:=⟨a.toNat,aa⟩;have hn:n<m.length:=aa;have j1:=T.ix hn;have j2:=T.ld hn;have j3:=T.ix2 hn hc;have j4:=T.ld2 hn hc;simp(disch:=try exact ac)[l1,hlt];refine bB ?_;simp(disch:=try exact ac)[i1,i2,i3,i4,t0,a0];refine cd (yU _) ?_;simp(disch:=try exact ac)[j1,j2,j3,j4];refine cd (yU _) ?_
    simp(disch:=try exact ac);refine cd (Ch (by have:=VB bd hB hi c;omega) (by have:=VB bd hB hn c;omega)) ?_;have et:((n:Int)).toNat=n:=aa;rw[et]at hK;by_cases hl:(eX m i c).natAbs<(eX m n c).natAbs
    .have hcm:Big.cmp (eX m i c).natAbs (eX m n c).natAbs<0:=Kr.2 hl;rw[if_pos ⟨e0,.inr hl⟩]at hK;simp(disch:=try exact ac)[hcm,t0];refine bB ?_;simp(disch:=try exact ac);exact fin i aa aa hK
    .have hcm:¬Big.cmp (eX m i c).natAbs (eX m n c).natAbs<0:=fun g=>hl (Kr.1 g)
     rw[if_neg (fun g=>g.2.elim (fun g=>by omega) hl)]at hK;simp(disch:=try exact ac)[hcm,t0];refine bB ?_;simp(disch:=try exact ac);exact fin n aa aa hK
theorem OM(hc:c<L)(hB:Bd<=100000)(hL:L<1000000){o:Nat}(h0:Hp)(h00:∀s,b<=s->s<h0.length->h0[s]?=some nnQ)(K:KL) :
  ∀(r i:Nat)(rs:Bool)(m:List RwL)(h:Hp),Tr b gh h so eo L m->m.length<1000000->h0.length=h.length->o<i->i+r=m.length->bdE Bd (nR m o).r->(∀k,i<=k->k<m.length->bdE Bd (nR m k).r)->eX m o c≠0 ->
  (∀h',Tr b gh h' so eo L (kT RwL.z RwL.r RwL.w c o r i rs m).2->h'.length=h.length->K (.exit 6) [B (kT RwL.z RwL.r RwL.w c o r i rs m).1] h') ->
  lp (jj (CX Y) b (ouV so eo m.length) (I o) (I c)) [b+0] h0 [B rs,I i] h K
 | 0,i,rs,m,h,T,hm,hh,ho,hr,b1,b2,hz,hK=>by
  refine ai ?_;have hlt:¬((i:Int)<(m.length:Int)):=aa;have l1:aW (ouV so eo m.length)=some (I m.length):=rfl;simp only[jj];simp(disch:=try exact ac)[l1,hlt];exact hK h T rfl
 | r+1,i,rs,m,h,T,hm,hh,ho,hr,b1,b2,hz,hK=>by
  refine ai ?_;have hlt:((i:Int)<(m.length:Int)):=aa;have l1:aW (ouV so eo m.length)=some (I m.length):=rfl;have hi:i<m.length:=aa;have hoo:o<m.length:=aa;have i1:=T.ix hi;have i2:=T.ld hi;have i3:=T.ix2 hi hc;have i4:=T.ld2 hi hc;have j1:=T.ix hoo;have j2:=T.ld hoo;have j3:=T.ix2 hoo hc;have j4:=T.ld2 hoo hc;have n1:=vK hB (yR (b2 i (Z7 _) hi) c)
  have n2:=vK hB (yR b1 c);simp only[jj];simp(disch:=try exact ac)[l1,hlt,i1,i2,i3,i4,j1,j2,j3,j4];refine cd (IQ (z:=eX m i c) (w:=eX m o c) hz (by have:ndg (eX m i c).natAbs<=_:=n1;omega) (by have:ndg (eX m o c).natAbs<=_:=n2;omega)) ?_;simp(disch:=try exact ac)[i1,i2,j1,j2];have nio:o≠i:=aa
  have el:(nR m i).r.length=(nR m o).r.length:=by rw[T.ln i hi,T.ln o hoo]
  have T2:Tr b gh (h.set (nR m i).s ((nR m i).w (te ((eX m i c).fdiv (eX m o c)) (nR m i).r (nR m o).r)).k) so eo L (jy RwL.z RwL.r RwL.w c o m i):=T.row hi (by rw[CS _ _ _ el,T.ln i hi]);have q1:ndg ((eX m i c).fdiv (eX m o c)).natAbs<=100002:=Zu (cJ (KQ _ _ hz)) (Zu n1 aa)
  refine ik (Kf hB (T.r o hoo) (T.r i hi) (T.nd i o hi hoo (Ne.symm nio)) q1 b1 (b2 i (Z7 _) hi) el (by rw[T.ln i hi];exact hL) T.hu) ?_ (by intro _ _ _ _ _ h;cases h);have e1:((i+1:Nat):Int)=(i:Int)+1:=aa;have hlen:(h.set (nR m i).s ((nR m i).w (te ((eX m i c).fdiv (eX m o c)) (nR m i).r (nR m o).r)).k).length=h.length:=Y9
  generalize h.set (nR m i).s ((nR m i).w (te ((eX m i c).fdiv (eX m o c)) (nR m i).r (nR m o).r)).k=h1 at *;have no:nR (jy RwL.z RwL.r RwL.w c o m i) o=nR m o:=by unfold nR jy;rw[jG _ _ _ _ _ hi,if_neg nio]
  have tl:(jy RwL.z RwL.r RwL.w c o m i).length=m.length:=nj ..
  have eo':eX (jy RwL.z RwL.r RwL.w c o m i) o c=eX m o c:=by
   show nth 0 (nR (jy RwL.z RwL.r RwL.w c o m i) o).r c=_
   rw[no];rfl
  have cl:∀x:Bool,clean [b] [B x,I ((i:Int)+1)] h1=true:=fun x=>by
   simp only[clean,Z8];exact⟨rfl,tV ae T2.u 0⟩
  have rs1:aR [b] 0 h0 h1=h1:=tf (b:=b) ae 0 h0 h1 aa fun s h1' h2'=>⟨T2.ow s aa h2',h00 s aa aa⟩
  have ih:=fun rs' (hk:∀h',Tr b gh h' so eo L (kT RwL.z RwL.r RwL.w c o r (i+1) rs' (jy RwL.z RwL.r RwL.w c o m i)).2->h'.length=h.length->K (.exit 6) [B (kT RwL.z RwL.r RwL.w c o r (i+1) rs' (jy RwL.z RwL.r RwL.w c o m i)).1] h')=>
   OM hc hB hL h0 h00 K r (i+1) rs' (jy RwL.z RwL.r RwL.w c o m i) h1 T2 (by rw[tl];exact hm) aa aa (by rw[tl];omega) (by rw[no];exact b1)
    (fun k k1 k2=>by
     rw[tl]at k2;have:nR (jy RwL.z RwL.r RwL.w c o m i) k=nR m k:=by unfold nR jy;rw[jG _ _ _ _ _ hi,if_neg aa]
     rw[this];exact b2 k aa k2) (by rw[eo'];exact hz) (fun h' t1 t2=>hk h' t1 aa)
  rw[tl,e1]at ih;simp only[kT]at hK;cases rs with
  | true=>
   simp(disch:=try exact ac)[cl,rs1];exact lo (ih true (by simpa using hK))
  | false=>
   by_cases hf:(eX m i c).fmod (eX m o c)=0
   .have t0:=(sX ((eX m i c).fmod (eX m o c))).2 hf;simp(disch:=try exact ac)[cl,rs1,t0];exact lo (ih false (by simpa[hf]using hK))
   .have t0:¬itoa ((eX m i c).fmod (eX m o c))=[48]:=fun h=>hf ((sX _).1 h)
    have t1:(itoa ((eX m i c).fmod (eX m o c)) == [48])=false:=by simpa using t0
    simp(disch:=try exact ac)[cl,rs1,t1];exact lo (ih true (by simpa[hf]using hK))
theorem OL(hc:c<L)(hB:Bd<=100000)(hL:L<1000000){o:Nat}(h0:Hp)(h00:∀s,b<=s->s<h0.length->h0[s]?=some nnQ)(K:KL) :
  ∀(r i:Nat)(m:List RwL)(h:Hp),Tr b gh h so eo L m->m.length<1000000->h0.length=h.length->o<m.length->i+r=o->bdE Bd (nR m o).r->(∀k,i<=k->k<o->bdE Bd (nR m k).r)->eX m o c≠0 ->
  (∀h',Tr b gh h' so eo L (upG RwL.z RwL.r RwL.w c o r i m)->h'.length=h.length->K (.exit 8) [] h') ->
  lp (fP (CX Y) b (ouV so eo m.length) (I o) (I c) (I o)) [b+2] h0 [I i] h K
 | 0,i,m,h,T,hm,hh,ho,hr,b1,b2,hz,hK=>by
  refine ai ?_;have hlt:¬((i:Int)<(o:Int)):=aa;simp only[fP];simp(disch:=try exact ac)[hlt];exact hK h T rfl
 | r+1,i,m,h,T,hm,hh,hoo,hr,b1,b2,hz,hK=>by
  refine ai ?_;have hlt:((i:Int)<(o:Int)):=aa;have hi:i<m.length:=aa;have i1:=T.ix hi;have i2:=T.ld hi;have i3:=T.ix2 hi hc;have i4:=T.ld2 hi hc;have j1:=T.ix hoo;have j2:=T.ld hoo;have j3:=T.ix2 hoo hc;have j4:=T.ld2 hoo hc;have n1:=vK hB (yR (b2 i (Z7 _) aa) c);have n2:=vK hB (yR b1 c);simp only[fP]
  simp(disch:=try exact ac)[hlt,i1,i2,i3,i4,j1,j2,j3,j4];refine cd (IQ (z:=eX m i c) (w:=eX m o c) hz (by have:ndg (eX m i c).natAbs<=_:=n1;omega) (by have:ndg (eX m o c).natAbs<=_:=n2;omega)) ?_;simp(disch:=try exact ac)[i1,i2,j1,j2];have nio:o≠i:=aa;have el:(nR m i).r.length=(nR m o).r.length:=by rw[T.ln i hi,T.ln o hoo]
  have T2:Tr b gh (h.set (nR m i).s ((nR m i).w (te ((eX m i c).fdiv (eX m o c)) (nR m i).r (nR m o).r)).k) so eo L (jy RwL.z RwL.r RwL.w c o m i):=T.row hi (by rw[CS _ _ _ el,T.ln i hi]);have q1:ndg ((eX m i c).fdiv (eX m o c)).natAbs<=100002:=Zu (cJ (KQ _ _ hz)) (Zu n1 aa)
  refine ik (Kf hB (T.r o hoo) (T.r i hi) (T.nd i o hi hoo (Ne.symm nio)) q1 b1 (b2 i (Z7 _) aa) el (by rw[T.ln i hi];exact hL) T.hu) ?_ (by intro _ _ _ _ _ h;cases h);have e1:((i+1:Nat):Int)=(i:Int)+1:=aa;have hlen:(h.set (nR m i).s ((nR m i).w (te ((eX m i c).fdiv (eX m o c)) (nR m i).r (nR m o).r)).k).length=h.length:=Y9
  generalize h.set (nR m i).s ((nR m i).w (te ((eX m i c).fdiv (eX m o c)) (nR m i).r (nR m o).r)).k=h1 at *;have no:nR (jy RwL.z RwL.r RwL.w c o m i) o=nR m o:=by unfold nR jy;rw[jG _ _ _ _ _ hi,if_neg nio]
  have tl:(jy RwL.z RwL.r RwL.w c o m i).length=m.length:=nj ..
  have eo':eX (jy RwL.z RwL.r RwL.w c o m i) o c=eX m o c:=by
   show nth 0 (nR (jy RwL.z RwL.r RwL.w c o m i) o).r c=_
   rw[no];rfl
  have cl:clean [b+2] [I ((i:Int)+1)] h1=true:=by
   simp only[clean,Z8];exact⟨rfl,tV (b:=b) ae T2.u 0⟩
  have rs1:aR [b+2] 0 h0 h1=h1:=tf (b:=b) ae 0 h0 h1 aa fun s h1' h2'=>⟨T2.ow s aa h2',h00 s aa aa⟩
  have ih:=OL hc hB hL h0 h00 K r (i+1) (jy RwL.z RwL.r RwL.w c o m i) h1 T2 (by rw[tl];exact hm) aa (by rw[tl];exact hoo) aa (by rw[no];exact b1)
    (fun k k1 k2=>by
     have:nR (jy RwL.z RwL.r RwL.w c o m i) k=nR m k:=by unfold nR jy;rw[jG _ _ _ _ _ hi,if_neg aa]
     rw[this];exact b2 k aa k2) (by rw[eo'];exact hz) (fun h' t1 t2=>by simp only[upG]at hK;exact hK h' t1 aa)
  rw[tl,e1]at ih;simp(disch:=try exact ac)[cl,rs1];exact lo ih
theorem Kb(z:Int):(sgn z<0)↔z<0:=by unfold sgn;split<;>(try split)<;>omega
theorem VJ(c:Nat)(m:List RwL):∀(r i:Nat)(a:Int),(a<0∨eX m a.toNat c≠0)->(atG RwL.z RwL.r c m r i a<0∨eX m (atG RwL.z RwL.r c m r i a).toNat c≠0)
 |0,_,_,h=>h
 | r+1,i,a,h=>by
  simp only[atG];refine VJ c m r (i+1) _ ?_;split
  .rename_i g;exact .inr g.1
  .exact h
theorem Cx(c o:Nat):∀(r i:Nat)(x:Bool)(m:List RwL)(k:Nat),k<i->i+r<=m.length->nR (kT RwL.z RwL.r RwL.w c o r i x m).2 k=nR m k
 |0,_,_,_,_,_,_=>rfl
 | r+1,i,x,m,k,hk,hl=>by
  simp only[kT];rw[Cx c o r (i+1) _ _ k aa (by rw[nj];omega)];unfold nR jy;rw[jG _ _ _ _ _ aa,if_neg aa]
theorem Tz(l:LiQ)(c:Nat):nth 0 (l.map (- ·)) c = -(nth 0 l c):=by simp only[nth,Z0,List.getElem?_map];cases l[c]?<;>simp
theorem ZW{l:LiQ}(h:bdE Bd l):bdE Bd (l.map (- ·)):=fun x hx=>by
 obtain⟨y,hy,rfl⟩:=Zh.1 hx;rw[Xf];exact h y hy
theorem agy(ho:h[so]?=some (eo,.vars cs))(hn:cs.length=n)(hi:i<n):ixV h 1 (ouV so eo n) (I i)=some (ouP so eo n i):=by
 have hg:aC h so eo=.vars cs:=by simp[aC,ho]
 simp only[ouV,ixV,hg];rw[if_pos ⟨hn.symm,aa,aa⟩];simp[ouP]
theorem OO(hc:c<L)(hB:Bd<=100000)(hL:L<1000000)(h0:Hp)(h00:∀s,b<=s->s<h0.length->h0[s]?=some nnQ)(K:KL) :
  ∀(f o:Nat)(m:List RwL)(h:Hp)(o':Nat)(m':List RwL),Tr b gh h so eo L m->m.length<1000000->h0.length=h.length->o<m.length->mU RwL.z RwL.r RwL.w Bd c f o m=some (o',m') ->
  (∀h',Tr b gh h' so eo L m'->h'.length=h.length->K (.exit 2) [I o'] h') ->
  lp (me (CX Y) b (ouV so eo m.length) (I c)) [b+0,b+1,b+2] h0 [I o] h K
 |0,o,m,h,o',m',T,hm,hh,ho,hf,hK=>by simp[mU]at hf
 | f+1,o,m,h,o',m',T,hm,hh,ho,hf,hK=>by
  refine ai ?_;simp only[mU]at hf;split at hf
  case isFalse=>cases hf
  rename_i hbd
  have bd:∀i,i<m.length->bdE Bd (nR m i).r:=fun i hi x hx=>by
   have h1:=Z2.1 hbd (nR m i) (by rw[nR,dQ _ _ _ hi];exact X3 hi);have h2:=Z2.1 h1 x hx;simpa using h2
  obtain⟨a,ha⟩:=nmQ (atG RwL.z RwL.r c m (m.length-o) o (-1));have ha2:=Nl (d:=RwL.z) (g:=RwL.r) c m (m.length-o) o (-1) aa aa;rw[<-ha]at hf ha2;simp only[me];simp(disch:=try exact ac);refine lo (ON T hc hB bd hm h rfl _ (m.length-o) o (-1) aa aa aa ?_);rw[<-ha];by_cases a0:a<0
  .rw[if_pos a0]at hf;cases hf;simp(disch:=try exact ac)[a0];exact hK h T rfl
  .rw[if_neg a0]at hf;obtain⟨n,rfl⟩:∃n:Nat,a=n:=⟨a.toNat,aa⟩;rw[show((n:Int)).toNat=n by omega]at hf;have hn:n<m.length:=aa;have i1:=T.ix hn;have i2:=T.ld hn;have j1:=T.ix ho;have j2:=T.ld ho;have s1:=adi (h:=h) T.o ae ho (nR m n);have hso:so<h.length:=(List.getElem?_eq_some_iff.1 T.o).1
   have g1:(h.set so (eo,.vars ((m.map RwL.v).set o (nR m n).v)))[so]?=some (eo,.vars ((m.map RwL.v).set o (nR m n).v)):=List.getElem?_set_self hso;have x1:=agy g1 (n:=m.length) ae hn;have s2:=adi g1 (n:=m.length) ae hn (nR m o);rw[List.set_set,RL ho hn]at s2;have T1:=T.swap ho hn;simp(disch:=try exact ac)[a0,i1,i2,j1,j2,s1,x1,s2]
   obtain⟨H2,hH2⟩:=nmQ (h.set so (eo,.vars ((mB RwL.z m o n).map RwL.v)));have lH2:H2.length=h.length:=by rw[hH2];exact Y9
   rw[<-hH2]at T1 ⊢;have sl:(mB RwL.z m o n).length=m.length:=fD ..
   have bd1:∀k,k<m.length->bdE Bd (nR (mB RwL.z m o n) k).r:=fun k hk=>by
    obtain⟨k',h1,h2,_⟩:=lS ho hn hk;rw[nR,h2];exact bd k' h1
   have z1:eX (mB RwL.z m o n) o c=eX m n c:=by
    obtain⟨k',h1,h2,h3⟩:=lS ho hn ho;have:k'=n:=by rw[h3];split<;>simp_all
    show nth 0 (nth RwL.z (mB RwL.z m o n) o).r c=_
    rw[h2,this];rfl
   have nz:eX m n c≠0:=by
    have:=VJ c m (m.length-o) o (-1) (.inl aa);rw[<-ha]at this;rcases this with g|g
    .omega
    .simpa using g
   obtain⟨s,hs⟩:=nmQ (kT RwL.z RwL.r RwL.w c o (m.length-(o+1)) (o+1) false (mB RwL.z m o n));rw[<-hs]at hf;have ls:s.2.length=m.length:=by rw[hs,kS,sl]
   have ks:∀k,k<=o->nR s.2 k=nR (mB RwL.z m o n) k:=fun k hk=>by rw[hs];exact Cx c o _ _ _ _ k aa (by rw[sl];omega)
   have e1:((o+1:Nat):Int)=(o:Int)+1:=aa;have hl3:=fun K=>OM (o:=o) hc hB hL H2 T1.ow K (m.length-(o+1)) (o+1) false (mB RwL.z m o n) H2 T1 (by rw[sl];exact hm) rfl aa (by rw[sl];omega) (bd1 o ho) (fun k _ k2=>bd1 k (by rw[sl]at k2;exact k2)) (by rw[z1];exact nz)
   rw[<-hs,sl,e1]at hl3;refine lo (hl3 _ fun h' T2 t2=>?_)
   have cl:∀(x:Int)(h'':Hp)(m2:List RwL),Tr b gh h'' so eo L m2->clean [b,b+1,b+2] [I x] h''=true:=fun x h'' m2 T=>by
    simp only[clean,Z8];exact⟨rfl,tV (b:=b) ae T.u 0⟩
   have rs1:aR [b,b+1,b+2] 0 h0 h'=h':=tf (b:=b) ae 0 h0 h' aa fun s h1' h2'=>⟨T2.ow s aa h2',h00 s aa aa⟩
   by_cases hr:s.1=true
   .rw[if_pos hr]at hf;have ih:=OO hc hB hL h0 h00 K f o s.2 h' o' m' T2 aa aa aa hf (fun h3 a1 a2=>hK h3 a1 aa);rw[ls]at ih;simp(disch:=try exact ac)[hr,cl _ h' s.2 T2,rs1];exact lo ih
   .have hr2:s.1=false:=by simpa using hr
    rw[if_neg hr]at hf;have T2':=T2;have hos:o<s.2.length:=aa;have i1':=T2.ix hos;have i2':=T2.ld hos;have i3':=T2.ix2 hos hc;have i4':=T2.ld2 hos hc;rw[ls]at i1' i2';have bds:∀k,k<=o->bdE Bd (nR s.2 k).r:=fun k hk=>by rw[ks k hk];exact bd1 k aa
    have zs:eX s.2 o c≠0:=by
     show nth 0 (nR s.2 o).r c≠0
     rw[ks o (Z7 _)];have:nth 0 (nR (mB RwL.z m o n) o).r c=eX m n c:=z1;rw[this];exact nz
    have tail:∀(m3:List RwL)(h3:Hp),Tr b gh h3 so eo L m3->h3.length=h.length->m3.length=m.length->(∀k,k<=o->bdE Bd (nR m3 k).r)->eX m3 o c≠0->upG RwL.z RwL.r RwL.w c o o 0 m3=m'->(o:Int)+1=(o':Int) ->
      lp (fP (CX Y) b (ouV so eo m.length) (I o) (I c) (I o)) [b+2] h3 [.d (.int .i64 0)] h3 (exK [((.exit 8),fun l21 h=>
       bnd (biI .add (I o) (.d (.int .i64 1))) fun v22=>
       K (.exit 2) [v22] h)]):=by
     intro m3 h3 T3 l3 lm b3 z3 hu ho'
     have q:=OL (o:=o) hc hB hL h3 T3.ow (exK [((.exit 8),fun l21 h=>
       bnd (biI .add (I o) (.d (.int .i64 1))) fun v22=>
       K (.exit 2) [v22] h)]) o 0 m3 h3 T3 aa rfl aa aa (b3 o (Z7 _)) (fun k _ k2=>b3 k aa) z3 (fun h4 T4 t4=>by
        rw[hu]at T4;simp(disch:=try exact ac);rw[ho'];exact hK h4 T4 aa)
     rw[lm]at q;exact q
    cases hf;simp(disch:=try exact ac)[hr2,i1',i2',i3',i4'];refine cd (oY _) ?_;by_cases hneg:eX s.2 o c<0
    .have sg1:=(Kb (eX s.2 o c)).2 hneg;simp(disch:=try exact ac)[sg1];refine bB ?_;simp(disch:=try exact ac)[i1',i2'];refine ik (MK hB (T2.r o hos) (bds o (Z7 _)) (by rw[T2.ln o hos];exact hL) T2.hu) ?_ (by intro _ _ _ _ _ h;cases h);simp(disch:=try exact ac)
     have T3:=T2.row hos (r:=(nR s.2 o).r.map (- ·)) (by rw[List.length_map];exact T2.ln o hos);have eN:A7 RwL.z RwL.r RwL.w c o s.2=s.2.set o ((nR s.2 o).w ((nR s.2 o).r.map (- ·))):=by unfold A7;rw[if_pos hneg]
     refine lo (tail _ _ T3 (by rw[Y9];omega) (by rw[Y9];exact ls) (fun k hk=>?_) ?_ (by rw[eN]) e1.symm)
     .unfold nR;rw[jG _ _ _ _ _ hos];split
      .exact ZW (bds o (Z7 _))
      .exact bds k hk
     ·have:eX (s.2.set o ((nR s.2 o).w ((nR s.2 o).r.map (- ·)))) o c = -(eX s.2 o c):=by
       show nth 0 (nth RwL.z _ o).r c=_
       rw[jG _ _ _ _ _ hos,if_pos rfl];exact Tz _ _
      rw[this];omega
    .have sg1:¬sgn (eX s.2 o c)<0:=fun g=>hneg ((Kb _).1 g)
     simp(disch:=try exact ac)[sg1];refine bB ?_;simp(disch:=try exact ac);have eN:A7 RwL.z RwL.r RwL.w c o s.2=s.2:=by unfold A7;rw[if_neg hneg]
     exact lo (tail s.2 h' T2 aa ls bds zs (by rw[eN]) e1.symm)
variable{b so eo L:Nat}{gh:Hp}{Bd c:Nat}
theorem zx(c:Nat):∀(f o:Nat)(m:List RwL)(o':Nat)(m':List RwL),o<m.length->mU RwL.z RwL.r RwL.w Bd c f o m=some (o',m')->o'<=m.length∧m'.length=m.length
 |0,o,m,o',m',ho,hf=>by simp[mU]at hf
 | f+1,o,m,o',m',ho,hf=>by
  simp only[mU]at hf;split at hf
  case isFalse=>cases hf
  split at hf
  .cases hf;exact⟨aa,rfl⟩
  .split at hf
   .have:=zx c f o _ o' m' (by rw[kS,fD];exact ho) hf;rw[kS,fD]at this;exact this
   .cases hf;exact⟨aa,by rw[Nu,Dn,kS,fD]⟩
theorem OP{cols f:Nat}(hB:Bd<=100000)(hL:L<1000000)(hcl:cols<=L)(h0:Hp)(h00:∀s,b<=s->s<h0.length->h0[s]?=some nnQ)(K:KL) :
  ∀(r c o:Nat)(m:List RwL)(h:Hp)(o':Nat)(m':List RwL),Tr b gh h so eo L m->m.length<1000000->h0.length=h.length->o<=m.length->c+r=cols->wY RwL.z RwL.r RwL.w Bd f r c o m=some (o',m') ->
  (∀h',Tr b gh h' so eo L m'->h'.length=h.length->o'<=m'.length->m'.length=m.length->K (.exit 0) [I o'] h') ->
  lp (fS (CX Y) b (ouV so eo m.length) (I cols)) [b+0,b+1,b+2] h0 [I o,I c] h K
 | 0,c,o,m,h,o',m',T,hm,hh,ho,hc,hf,hK=>by
  refine ai ?_;simp only[wY]at hf;cases hf;have hlt:¬((c:Int)<(cols:Int)):=aa;simp only[fS];simp(disch:=try exact ac)[hlt];exact hK h T rfl ho rfl
 | r+1,c,o,m,h,o',m',T,hm,hh,ho,hc,hf,hK=>by
  refine ai ?_;simp only[wY]at hf;have hlt:((c:Int)<(cols:Int)):=aa;have l1:aW (ouV so eo m.length)=some (I m.length):=rfl;simp only[fS];by_cases hom:o<m.length
  .rw[if_pos hom]at hf;have hom2:((o:Int)<(m.length:Int)):=aa;cases hr:mU RwL.z RwL.r RwL.w Bd c f o m with
   |none=>rw[hr]at hf;cases hf
   | some q=>
    obtain⟨o1,m1⟩:=q;rw[hr]at hf;simp only at hf;obtain⟨r1,r2⟩:=zx c f o m o1 m1 hom hr;simp(disch:=try exact ac)[hlt,l1,hom2];refine lo (OO (c:=c) aa hB hL h T.ow _ f o m h o1 m1 T hm rfl hom hr fun h' T1 t1=>?_)
    have cl:clean [b,b+1,b+2] [I (o1:Int),I ((c:Int)+1)] h'=true:=by
     simp only[clean,Z8];exact⟨rfl,tV (b:=b) ae T1.u 0⟩
    have rs1:aR [b,b+1,b+2] 0 h0 h'=h':=tf (b:=b) ae 0 h0 h' aa fun s h1' h2'=>⟨T1.ow s aa h2',h00 s aa aa⟩
    have ih:=OP hB hL hcl h0 h00 K r (c+1) o1 m1 h' o' m' T1 aa aa aa aa hf (fun h2 a1 a2 a3 a4=>hK h2 a1 aa a3 aa);have e1:((c+1:Nat):Int)=(c:Int)+1:=aa;rw[r2,e1]at ih;simp(disch:=try exact ac)[cl,rs1];exact lo ih
  .rw[if_neg hom]at hf;cases hf;have hom2:¬((o:Int)<(m.length:Int)):=aa;simp(disch:=try exact ac)[hlt,l1,hom2];exact hK h T rfl ho rfl
theorem Tr.eq{b so eo L:Nat}{gh h1 h2:Hp}{m:List RwL}(T1:Tr b gh h1 so eo L m)(T2:Tr b gh h2 so eo L m):h1=h2:=by
 apply Yh;intro i;by_cases e:i=so
 .subst e;rw[T1.o,T2.o]
 .by_cases e2:∃k,k<m.length∧(nth RwL.z m k).s=i
  .obtain⟨k,hk,rfl⟩:=e2;rw[T1.r k hk,T2.r k hk]
  .have hn:∀k,k<m.length->(nth RwL.z m k).s≠i:=fun k hk he=>e2 ⟨k,hk,he⟩
   rw[T1.fr i e hn,T2.fr i e hn]
theorem Tr.app{b so eo L:Nat}{gh h:Hp}{m:List RwL}(T:Tr b gh h so eo L m)(hb:h.length=b)(hg:gh.length=b)(n:Nat):Tr b (gh++List.replicate n nnQ) (h++List.replicate n nnQ) so eo L m where
 o:=by rw[List.getElem?_append_left (by have:=T.so;omega)];exact T.o
 r:=fun i hi=>by rw[List.getElem?_append_left (by have:=T.sb i hi;omega)];exact T.r i hi
 nd:=T.nd
 no:=T.no
 ln:=T.ln
 fr:=fun s hs hn=>by
  by_cases hlt:s<b
  .rw[List.getElem?_append_left aa,List.getElem?_append_left aa];exact T.fr s hs hn
  .rw[List.getElem?_append_right aa,List.getElem?_append_right aa,hb,hg]
 so:=T.so
 sb:=T.sb
 u:=by
  rw[Y5,T.u,Yw];simp[aN]
 bl:=by simp;omega
 ow:=fun s hs hl=>by
  rw[List.getElem?_append_right aa,List.getElem?_replicate,if_pos (by simp at hl;omega)]
theorem adA{h:Hp}{so eo k:Nat}(hg:h[so]?=some (eo,.vars cs))(hc:cs.length=n)(hk:k<=n):slV h 1 (ouV so eo n) none (some (I k))=some (.ref so eo 0 k n n):=by
 have g:aC h so eo=.vars cs:=by simp[aC,hg]
 simp only[ouV,slV,g,boV];rw[if_pos ⟨aa,aa⟩];simp[hc]
theorem Kl{h h':Hp}{so eo L cols f o':Nat}{m m':List RwL}{Bd:Nat}(hB:Bd<=100000)(hL:L<1000000)(hm:m.length<1000000)(hcl:cols<=L)(T:Tr h.length h h so eo L m)
  (hf:D6 RwL.z RwL.r RwL.w Bd f cols m=some (o',m')) (T':Tr h.length h h' so eo L m') (hl:h'.length=h.length) :
  CI Y F.cF [ouV so eo m.length,I cols] h (.ref so eo 0 o' m.length m.length) h':=by
 refine qg ?_;simp only[cF];simp(disch:=try exact ac);have T0:=T.app rfl rfl 3;refine lo (OP hB hL hcl (h++List.replicate 3 nnQ) T0.ow _ cols 0 0 m _ o' m' T0 hm rfl aa aa hf fun H TH lH ho hlm=>?_);have e:=TH.eq (T'.app hl rfl 3);subst e;have sl:=adA (k:=o') TH.o (n:=m.length) (by simp[hlm]) aa
 have sl':slV (h'++[(0,Bk.none),(0,Bk.none),(0,Bk.none)]) 1 (ouV so eo m.length) none (some (I o'))=some (.ref so eo 0 o' m.length m.length):=sl;simp(disch:=try exact ac)[sl'];refine⟨by rw[Ya hl],T'.u,.inl ⟨rfl,?_⟩⟩;simpa[under,Xc]using T.so
theorem aaV{s s' e i cap tot by_:Nat}{old:LdQ}{ex:Bool}{x:D}{h:Hp}{q:kkQ}{u:PU q}(hg:h[s']?=some (e,.data 1 old ex false))(hi:i<cap)(hc:cap<=old.length)(ht:tot=old.length)
  (hq:q (.ref s' e 0 (i+1) cap tot) (h.set s' (e,.data 1 (old.set i x) ex false))):rh (apV false s 1 by_ (.ref s' e 0 i cap tot) (.d (.sl 1 [x])) h) q u:=by
 subst ht;have g:aC h s' e=.data 1 old ex false:=by simp[aC,hg]
 show apV false s 1 by_ _ _ h q
 simp only[apV,cellsOf];rw[if_pos ae];unfold apC;rw[if_neg af];simp only[g];rw[if_pos ⟨trivial,trivial,aa,aa,ae⟩,if_pos aa];simp only[Bool.or_self,Zf,if_false,cw];have e1:old.set i x=old.take i++x::old.drop (i+1):=by rw[Yn,if_pos aa]
 rw[e1]at hq;simpa using hq
structure Rd(h:Hp)(x:V)(r:LiQ):Prop where
 n:aW x=some (I r.length)
 g:∀(t:Hp)(j:Nat),j<r.length->∃p,ixV (h++t) 1 x (I j)=some p∧ld1 (h++t) p=some (I (nth 0 r j))
theorem Rd.data(h:Hp)(r:LiQ):Rd h (lst di r) r where
 n:=by simp[lst,aW]
 g:=fun t j hj=>⟨_,nU di r _ (i:=(j:Int)) aa aa,by
  have:=md di 0 r (h++t) (j:=j) hj;simpa using this⟩
def lgB(r:LiQ)(n i:Nat):Nat×Bk:=(1,.data 1 ((r.take i).map sI++List.replicate (n-i) (.str [])) true false)
theorem XR{r:LiQ}(hi:i<r.length):((r.take i).map sI++List.replicate (r.length-i) (D.str [])).set i (sI (nth 0 r i))=(r.take (i+1)).map sI++List.replicate (r.length-(i+1)) (.str []):=by
 have e1:List.replicate (r.length-i) (D.str [])=.str []::List.replicate (r.length-(i+1)) (.str []):=by
  rw[<-List.replicate_succ];congr 1;omega
 have e2:r.take (i+1)=r.take i++[nth 0 r i]:=by rw[List.take_succ_eq_append_getElem hi,dQ _ _ _ hi]
 have hl:((r.take i).map sI).length=i:=by simp;omega
 rw[e1,e2,Y6 _ _ aa,hl,Zc];simp
theorem Gi{h:Hp}{x:V}{r:LiQ}(hr:Rd h x r)(hz:∀z∈r,-9223372036854775808<z∧z<9223372036854775808)(hn:r.length<1000000)(h0:Hp)(hh:h0.length=h.length+2)(K:KL) :
  ∀(k i:Nat),i+k=r.length->K (.exit 0) [.ref h.length 1 0 r.length r.length r.length] (h++[lgB r r.length r.length,nnQ]) ->
  lp (mD (CX Y) h.length x (I r.length)) [] h0 [.ref h.length 1 0 i r.length r.length,I i] (h++[lgB r r.length i,nnQ]) K
 | 0,i,hk,hK=>by
  refine ai ?_;have hlt:¬((i:Int)<(r.length:Int)):=aa;have:i=r.length:=aa;subst this;simp only[mD];simp(disch:=try exact ac)[hlt];exact hK
 | k+1,i,hk,hK=>by
  refine ai ?_;have hlt:((i:Int)<(r.length:Int)):=aa;have hi:i<r.length:=aa;obtain⟨p,p1,p2⟩:=hr.g [lgB r r.length i,nnQ] i hi;obtain⟨z1,z2⟩:=hz (nth 0 r i) (o7 hi);simp only[mD];simp(disch:=try exact ac)[hlt,p1,p2];refine cd (kr z1 z2) ?_
  have hli:fO 1 [D.str []] [(0,S (itoa (nth 0 r i)))] (h++[lgB r r.length i,nnQ])=some ([sI (nth 0 r i)],h++[lgB r r.length i,nnQ]):=by
   simp[fO,jm,ly,toD,norm,sI]
  simp(disch:=try exact ac)[hli];refine aaV (i:=i) (e:=1) (old:=(r.take i).map sI++List.replicate (r.length-i) (.str [])) (ex:=true) (by simp[lgB]) hi aG aG ?_;rw[XR hi,Y6 _ _ (Z7 _),Zc];have e1:((i+1:Nat):Int)=(i:Int)+1:=aa;have ih:=Gi hr hz hn h0 hh K k (i+1) aa hK;rw[e1]at ih
  simp(disch:=try exact ac)[List.set_cons_zero];exact lo (by simpa[lgB]using ih)
theorem Qq(n:Nat)(z:D):jm n [z]=List.replicate n z:=by
 induction n with
 |zero=>rfl
 |succ n ih=>simp[jm,ih,List.replicate_succ]
theorem Ke{s e by_ n:Nat}{b0:Bk}{z:D}{h:Hp}{k:kkQ}{u:PU k}(hs:h[s]?=some (e,b0))(hb:(by_:Int)*(n:Int)<=281474976710656)(hn:n<=1000000)
  (hk:k (.ref s (e+1) 0 0 n n) (h.set s (e+1,.data 1 (List.replicate n z) true false))):rh (mkS s by_ [z] h (I 0) (I n)) k u:=by
 show mkS s by_ [z] h (I 0) (I n) k
 simp only[mkS];rw[if_pos ⟨aa,aa,ae,hb,aa⟩];simp only[new,hs,Qq,Int.toNat_natCast,Zb,List.length_cons,List.length_nil];exact hk
theorem Gg{h:Hp}{x:V}{r:LiQ}(hr:Rd h x r)(hz:∀z∈r,-9223372036854775808<z∧z<9223372036854775808)(hn:r.length<1000000)(hu:(h.all fun x=>aN h.length x.2)=true):
  CI Y F.fu [x] h (.new 1 (r.map sI) true r.length r.length) h:=by
 refine zL ?_;simp only[fu];have l1:=hr.n;have hn2:(16:Int)*(r.length:Int)<=281474976710656:=aa;simp(disch:=try exact ac)[l1];refine Ke (e:=0) (b0:=.none) ae hn2 aa ?_;rw[Y6 _ _ (Z7 _),Zc];simp(disch:=try exact ac)[l1]
 have lp1:=Gi hr hz hn (h++[(1,Bk.data 1 (List.replicate r.length (D.str [])) true false),(0,Bk.none)]) ae (exK
      [(Exit.exit 0,fun l4 h_2=>
        mW (List.length h) (V.new 1 (List.map sI r) true r.length r.length) h (ge l4 0) h_2)]) r.length 0 aa (by
   simp(disch:=try exact ac);refine⟨ae,?_,.inr (.inr (.inl ⟨h.length,1,r.length,r.length,1,r.map sI,true,ae,Z7 _,by simp[aC,lgB],rfl⟩))⟩;exact hu)
 exact lo (by simpa[lgB]using lp1)
theorem Rk{h:Hp}(hn:n<1000000)(hu:(h.all fun x=>aN h.length x.2)=true):
  CI Y F.jP [I n] h (.new 1 ((List.replicate n 0).map sI) true n n) h:=by
 refine Bf ?_;simp only[jP];simp(disch:=try exact ac);obtain⟨H,hH⟩:=nmQ (h++[(1,Bk.data 1 (List.replicate n (D.int IntKind.i64 0)) true false),(0,Bk.none)])
 have hg:∀t:Hp,aC (H++t) h.length 1=.data 1 (List.replicate n (D.int IntKind.i64 0)) true false:=fun t=>by
  have:(H++t)[h.length]?=some (1,Bk.data 1 (List.replicate n (D.int IntKind.i64 0)) true false):=by
   rw[hH,List.append_assoc,List.getElem?_append_right (Z7 _),Zc];rfl
  simp[aC,this]
 have hr:Rd H (.ref h.length 1 0 n n n) (List.replicate n 0):=by
  refine⟨by simp[aW],fun t j hj=>⟨.ptr h.length 1 j n,?_,?_⟩⟩
  .rw[Zb]at hj;simp only[ixV,hg t];rw[if_pos ⟨ae,aa,aa⟩];simp
  .rw[Zb]at hj;simp only[ld1,hg t];rw[if_pos ae];have e2:nth 0 (List.replicate n (0:Int)) j=0:=by simp[nth,hj]
   rw[e2];simp[hj]
 have hu2:(H.all fun x=>aN H.length x.2)=true:=by
  refine vO (b:=h.length) (by rw[hH];simp) ?_;rw[hH,Y5,hu];simp[aN]
 have lg:=Gg hr (fun z hz=>by rw[Xb]at hz;omega) (by simpa using hn) hu2;rw[<-hH];refine gA lg (s:=h.length+1) (e:=0) (b:=.none) (by rw[hH,List.getElem?_append_right aa];simp) ?_;refine⟨by rw[hH,Y6 _ _ aa];simp,hu,.inr (.inr (.inl ⟨h.length+1,1,n,n,1,(List.replicate n 0).map sI,true,ae,aa,?_,rfl⟩))⟩
 have:(H.set (h.length+1) (0+1,Bk.data 1 ((List.replicate n 0).map sI) true false))[h.length+1]?=some (1,Bk.data 1 ((List.replicate n 0).map sI) true false):=by
  rw[List.getElem?_set_self (by rw[hH];simp)]
 simp only[aC,this,if_true]
end Go.Vm
