/- Lemmas. -/
import Derived.Test.YtmfphhiejjamaabGreatDoorQAaI
set_option linter.unusedVariables false
set_option linter.unusedSimpArgs false
namespace Go.Vm
open Go Go.Am Go.Big
variable{c cells R0 R:LdQ}{p:LiQ}{b Bd e s L i j:Nat}{x c0 r:D}{A owns os:List LLQ}{steps:List (List LLQ)}{clr:LnQ}{t1 t5 t6 s1 s2 s3 s4 s5 s6:Nat×Bk}
def zrB(d:LiQ):Bool:=d.all (· == 0)
theorem Om(x:Int):CP Y F.kt [I x] (B (!(x == 0))):=by
 refine CN ?_;simp[kt]
 grind[nN]
theorem R5(d:LiQ)(hN:d.length<1000000):CP Y F.qi [lst di d] (B (zrB d)):=by
 refine IU ?_;have co:=xw (g:=F.kt) (p:=fun x=>!(x == 0)) d aa (fun x _=>Om x);simp[qi];refine cd co ?_;simp;refine nN ?_;unfold zrB
 induction d with
 |nil=>rfl
 | cons x d ih=>
  grind
abbrev Mv:=Nat×Nat×LiQ
def mvC(x:Mv):LdQ:=[di x.1,di x.2.1,row x.2.2]
theorem P7(x:Mv):(mvC x).length=3:=rfl
def Jg(k:Nat):Nat->LLQ->List Mv
 |_,[]=>[]
 |i,d::q=>(if zrB d=true then[]else[(k,i,d)])++Jg k (i+1) q
def J3:Acc:=⟨1,0,3,.none⟩
def moH(a:Ad)(R:List Mv):Hp:=[adB a,J3.b R.length (R.flatMap mvC)]
def moV(R:List Mv):V:=J3.v R.length (R.flatMap mvC)
variable{a:Ad}
theorem UZ{m:LLQ}{k:Nat}(hk:k<1000000)(hN:m.length<1000)(hm:∀d∈m,d.length<1000000)(h0:Hp)(hh:h0.length=2)(K:KL):∀(q l:LLQ)(R:List Mv),l++q=m->R.length+q.length<1000000 ->
  K (.exit 2) [moV (R++Jg k l.length q)] (moH a (R++Jg k l.length q)) ->
  lp (iR (CX Y) (I (k+1:Nat)) (mat m) (I m.length)) [] h0 [moV R,I l.length] (moH a R) K
 | [],l,R,hl,hR,hK=>by
  have e:l.length=m.length:=by rw[<-hl];simp
  simp only[Jg,Y8]at hK;refine aj ?_;simp[iR,e];exact hK
 | d::q,l,R,hl,hR,hK=>by
  have hll:m.length=l.length+(q.length+1):=by rw[<-hl];simp
  simp only[List.length_cons]at hR;have iz:=R5 d (hm d (by grind));have i1:∀h:Hp,ixV h 1 (mat m) (I l.length)=some (.dptr (m.map row) l.length):=fun h=>aJ row _ h rfl aa
  have i2:∀h:Hp,ld1 h (.dptr (m.map row) l.length)=some (lst di d):=fun h=>by rw[aC row [] m h aa,<-hl,bM];rfl
  have e2:((l++[d]).length:Int)=(l.length:Int)+1:=af;have e3:(l++[d]).length=l.length+1:=af;have g:(l.length:Int)<m.length:=aa;have hre:∀R,au [] 0 h0 (moH a R)=moH a R:=fun R=>aX 0 h0 _ (by simp[hh,moH])
  simp only[Jg]at hK;by_cases g0:zrB d=true
  .rw[if_pos g0,List.nil_append]at hK;have ih:=UZ hk hN hm h0 hh K q (l++[d]) R (by grind) aa (by grind);rw[e2]at ih;refine aj ?_;simp[iR,g];refine aT ?_;simp[i1,i2];refine cd iz ?_;simp[g0];refine aT ?_;simp(disch:=try exact ag)[hre];exact ih
  .rw[if_neg g0]at hK;have g0':zrB d=false:=by simpa using g0
   have ih:=UZ hk hN hm h0 hh K q (l++[d]) (R++[(k,l.length,d)]) (by grind) (by grind) (by grind);rw[e2]at ih;have gk:((k+1:Nat):Int)-1=(k:Int):=aa
   have li:∀H,cO 1 [D.int IntKind.i64 0,D.int IntKind.i64 0,nPQ] [(0,.agg [I k,I l.length,lst di d])] H=some (mvC (k,l.length,d),H):=fun H=>by
    rfl
   have fl:=d6 mvC P7 R;have eH:moH a R=[adB a,J3.b R.length (R.flatMap mvC)]:=rfl;refine aj ?_;simp[iR,g];refine aT ?_;simp[i1,i2];refine cd iz ?_;simp[g0'];refine aT ?_;simp(disch:=try exact ag)[gk,li];unfold moV
   refine hO J3 (L:=R.length) (k:=1) (cells:=R.flatMap mvC) (cs:=mvC (k,l.length,d)) aa rfl fl rfl rfl (fun t e=>by cases e) aa ae ?_
   have eS2:(moH a R).set J3.s (J3.b (R.length+1) (R.flatMap mvC++mvC (k,l.length,d)))=moH a (R++[(k,l.length,d)]):=by
    simp[moH,J3]
   rw[eS2]
   have eV:J3.v (R.length+1) (R.flatMap mvC++mvC (k,l.length,d))=moV (R++[(k,l.length,d)]):=by
    simp[moV]
   rw[eV];simp(disch:=try exact ag)[hre];exact ih
def LJ(a:Ad):Nat->Nat->LiQ->List Mv
 |_,_,[]=>[]
 |k,pr,z::q=>Jg k 0 (yv a k pr z.toNat)++LJ a (k+1) z.toNat q
theorem LI(k:Nat):∀(m:LLQ)(i:Nat),(Jg k i m).length<=m.length
 |[],_=>Z7 _
 | d::m,i=>by
  have:=LI k m (i+1)
  grind[Jg]
theorem acs(G:cI a){c:LiQ}(hc:JN a c)(h0:Hp)(hh:h0.length=2)(K:KL):∀(q l:LiQ)(R:List Mv),l++q=c->0<l.length->R.length<=12*l.length ->
  K (.exit 0) [moV (R++LJ a (l.length-1) (prI l) q)] (moH a (R++LJ a (l.length-1) (prI l) q)) ->
  lp (kS (CX Y) (lst di c) (.ptr 0 1 0 6) (mat (mb a))) [] h0 [moV R,I l.length] (moH a R) K
 | [],l,R,hl,hp,hR,hK=>by
  have e:l.length=c.length:=by rw[<-hl];simp
  refine aj ?_;simp only[LJ,Y8]at hK;simp[kS,e];exact hK
 | z::q,l,R,hl,hp,hR,hK=>by
  have hll:c.length=l.length+(q.length+1):=by rw[<-hl];simp
  have h5:=G.five;have hcl:=G.cl;have hcc:=hc.1;have hlen:=G.wk.len;obtain⟨m,rfl,hm⟩:=hc.at hl;have hz:nth 0 c l.length=(m:Int):=by rw[<-hl,bM]
  obtain⟨hin,hp0⟩:=eh G.hp;have hNp:=hin.2.1;obtain⟨k,hk⟩:∃k,l.length=k+1:=⟨l.length-1,aa⟩
  have hpr:nth 0 c k=((prI l:Nat):Int)∧prI l<(nth [] a.cd k).length:=by
   obtain⟨h1,h2⟩:=hc.2 k aa
   have e:nth 0 c k=nth 0 l k:=by
    rw[aN _ _ _ aa,aN _ _ _ aa];simp only[<-hl];rw[List.getElem_append_left aa]
   unfold prI;rw[hk,Yd,<-e];exact⟨aa,aa⟩
  obtain⟨p1,p2⟩:=hpr;have hkl:k<a.lk.length:=aa;have hm':m<(nth [] a.cd (k+1)).length:=by rw[<-hk];exact hm
  have mv:=LK G hkl p2 hm';have mm:=G.move hkl p2 hm'
  change CP Y F.du [.agg (adC a),mat (mb a),I k,.agg [I (prI l),I m]] (.tup [mat (yv a k (prI l) m),I 0])at mv
  have hls:=G.wk.ls _ (aQ (d:=[]) hkl);have ml:(yv a k (prI l) m).length<=12:=by simp only[yv,List.length_map];exact hls
  have e2:((l++[(m:Int)]).length:Int)=(l.length:Int)+1:=af;have e3:(l++[(m:Int)]).length=l.length+1:=af
  have pr:prI (l++[(m:Int)])=m:=by
   unfold prI;rw[e3,Yd,bM];simp
  have ek:l.length-1=k:=aa;have gl:=LI k (yv a k (prI l) m) 0;simp only[LJ,ek,Int.toNat_natCast]at hK;generalize yv a k (prI l) m=M at *;have ih:=acs G hc h0 hh K q (l++[(m:Int)]) (R++Jg k 0 M) (by grind) aa (by grind) (by grind);rw[e2]at ih;have i1:∀h:Hp,ixV h 1 (lst di c) (I l.length)=some (.dptr (c.map di) l.length):=fun h=>aJ di _ h rfl aa
  have i2:∀h:Hp,ld1 h (.dptr (c.map di) l.length)=some (I m):=fun h=>by rw[aC di 0 c h aa,hz];rfl
  have l6:∀R,ldA (moH a R) 6 (.ptr 0 1 0 6)=some (.agg (adC a)):=fun _=>rfl
  have g:(l.length:Int)<c.length:=aa;have gk:(l.length:Int)-1=(k:Int):=aa;have j1:∀h:Hp,ixV h 1 (lst di c) (I k)=some (.dptr (c.map di) k):=fun h=>aJ di _ h rfl aa
  have j2:∀h:Hp,ld1 h (.dptr (c.map di) k)=some (I (prI l)):=fun h=>by rw[aC di 0 c h aa,p1];rfl
  have hre:∀R,au [] 0 h0 (moH a R)=moH a R:=fun R=>aX 0 h0 _ (by simp[hh,moH])
  have el:(l.length:Int)=((k+1:Nat):Int):=aa;have lm:bj (mat M)=some (I M.length):=rfl;refine aj ?_;simp(disch:=try exact ag)[kS,g,gk,i1,i2,j1,j2,l6];refine cd mv ?_;simp[lm];rw[el]at ih ⊢;refine lo (UZ (a:=a) (m:=M) (k:=k) aa aa (fun d hd=>by grind) _ rfl _ M [] R rfl aa ?_);simp(disch:=try exact ag)[hre]
  exact ih
theorem ZD(G:cI a){c:LiQ}(h:chB a c=0):CP Y F.jr [.agg (adC a),lst di c] (.tup [qm mvC (LJ a 0 (nth 0 c 0).toNat c.tail),I 0]):=by
 refine zu ?_;have co:=H6 G h;have hc:=aby h;have hcc:=hc.1;have hcl:=G.cl;have hlen:=G.wk.len;have bx:=xy (a:=a) 0 [nnQ,nnQ] [adB a,nnQ] rfl rfl;have l6:∀x,ldA [adB a,x] 6 (.ptr 0 1 0 6)=some (.agg (adC a)):=fun _=>rfl
 simp[jr,bx,l6];refine cd co ?_;simp
 obtain ⟨z,q,rfl⟩:∃z q,c=z::q:=by
  cases c with
  |nil=>grind
  |cons z q=>simp
 have eH:([adB a,(0,Bk.none)]:Hp)=moH a []:=rfl;rw[eH];refine lo (acs G hc (moH a []) rfl _ q [z] [] rfl af af ?_);have e0:([z]:LiQ).length-1=0:=rfl;have e1:prI [z]=z.toNat:=rfl;have e2:nth 0 (z::q) 0=z:=rfl;rw[e0,e1,List.nil_append,e2,List.tail_cons];generalize LJ a 0 z.toNat q=R at *;have fl:=d6 mvC P7 R
 obtain⟨h',q1,_⟩:=uR J3 (L:=R.length) (cells:=R.flatMap mvC) (h:=moH a R) rfl fl;simp;exact aG q1 rfl
def szL(b:Nat)(o:LLQ):D:=.sl o.length (o.map fun r=>szD (szI b r))
def ia(b:Nat)(os:List LLQ):D:=.sl os.length (os.map (szL b))
def lK(b:Nat)(os:List (List LLQ)):D:=.sl os.length (os.map (ia b))
theorem OK{h:Hp}(hu:(h.all fun x=>bW h.length x.2)=true)(hl:0<cells.length)(hb:cells.length<1000000000):CI Y F.bf [.d (.sl cells.length cells)] h (.new 1 cells false cells.length cells.length) h:=by
 refine pq ?_
 have nl:∀(H:Hp)(k:V->Prop)(u:PU k),rn (rj H .eql (.d (.sl cells.length cells)) (.d nPQ)) k u=k (.d (.bool false)):=fun H k u=>by
  obtain⟨m,hm⟩:∃m,cells.length=m+1:=⟨cells.length-1,aa⟩;rw[hm];rfl
 simp[bf,nl]
 have hli:cO 0 [nPQ] [] (h++[(0,Bk.none),(0,Bk.none)])=some ([],h++[(0,Bk.none),(0,Bk.none)]):=by
  simp[cO,jv,iH]
 rw[hli];simp;refine x8 (z:=[]) ae hl af aa ?_;refine⟨af,?_,.inr (.inr (.inl ⟨h.length+1,1,cells.length,cells.length,1,cells,false,af,aa,by simp[aw],rfl⟩))⟩;simp only[Yp,hu,Zg]
 try simp[bW]
theorem OL{h:Hp}(hu:(h.all fun x=>bW h.length x.2)=true)(hl:0<cells.length)(hb:cells.length<1000000000):CI Y F.aU [.d (.sl cells.length cells)] h (.new 1 cells false cells.length cells.length) h:=by
 refine nW ?_
 have nl:∀(H:Hp)(k:V->Prop)(u:PU k),rn (rj H .eql (.d (.sl cells.length cells)) (.d nPQ)) k u=k (.d (.bool false)):=fun H k u=>by
  obtain⟨m,hm⟩:∃m,cells.length=m+1:=⟨cells.length-1,aa⟩;rw[hm];rfl
 simp[aU,nl]
 have hli:cO 0 [nPQ] [] (h++[(0,Bk.none),(0,Bk.none)])=some ([],h++[(0,Bk.none),(0,Bk.none)]):=by
  simp[cO,jv,iH]
 rw[hli];simp;refine x8 (z:=[]) ae hl af aa ?_;refine⟨af,?_,.inr (.inr (.inl ⟨h.length+1,1,cells.length,cells.length,1,cells,false,af,aa,by simp[aw],rfl⟩))⟩;simp only[Yp,hu,Zg]
 try simp[bW]
def CR(p:LiQ):Option LiQ->LiQ->LiQ->LLQ->LLQ->Option LiQ
 | o,own,n,st::ss,be::bs=>CR p (match o with
   |none=>some (sN n [own,st,be])
   |some m=>some (if wI p (sN n [own,st,be])<wI p m then sN n [own,st,be]else m)) own n ss bs
 |o,_,_,_,_=>o
def opV(b:Nat):Option LiQ->V
 |none=>.d nPQ
 |some m=>szV (szI b m)
structure Nf(p:LiQ)(b Bd:Nat):Prop where
 hp:pcS p
 b0:0<b
 b1:b<1000000
 B1:Bd<100000000000
def okR(p:LiQ)(Bd:Nat)(l:LLQ):Prop:=∀r∈l,r.length=p.length∧bdN Bd r
theorem Pj(G:Nf p b Bd){x y z:LiQ}(hx:x.length=p.length∧bdN Bd x)(hy:y.length=p.length∧bdN Bd y)(hz:z.length=p.length∧bdN Bd z):
  (sN (List.replicate p.length 0) [x,y,z]).length=p.length∧bdN (Bd+Bd+Bd) (sN (List.replicate p.length 0) [x,y,z]):=by simp only[sN];rw[sL 1 hx.1,Jk];refine⟨?_,lE (lE hx.2 hy.2) hz.2⟩;rw[hQ _ (by rw[hQ _ aa];omega),hQ _ aa,hx.1]
theorem TK{p:LiQ}{b Bd:Nat}(G:Nf p b Bd)(O:D){k i:Nat}{steps:List (List LLQ)}{own:LLQ}{o:LiQ}(hk:k<steps.length)(hi:i<(nth [] steps k).length)(ho:o.length=p.length∧bdN Bd o)
  (hr:okR p Bd (nth [] (nth [] steps k) i)) (hbe:okR p Bd own) (hl:own.length<=(nth [] (nth [] steps k) i).length) (hN:own.length<1000000) (h:Hp) (h0:Hp) (hh:h0.length=h.length) (K:KL) :
  ∀(q a:LLQ)(sq sa:LLQ)(m:Option LiQ),a++q=own->sa++sq=nth [] (nth [] steps k) i->sa.length=a.length->(∀x,m=some x->x.length=p.length∧bdN (Bd+Bd+Bd) x) ->
  (∀v,v=opV b (CR p m o (List.replicate p.length 0) sq q)->K (.exit 4) [v] h) ->
  lp (gI (CX Y) (.dptr (gD p O (lK b steps)) 0) (I k) (I i) (szV (szI b o)) (.d (szL b own)) (I own.length)) [] h0 [opV b m,I a.length] h K
 | [],a,sq,sa,m,ha,hs,hsa,hm,hK=>by
  have e:a.length=own.length:=by rw[<-ha];simp
  refine aj ?_;simp[gI,e];exact hK _ (by cases sq<;>rfl)
 | be::q,a,[],sa,m,ha,hs,hsa,hm,hK=>by
  have e1:own.length=a.length+(q.length+1):=by rw[<-ha];simp
  have e2:(nth [] (nth [] steps k) i).length=sa.length:=by rw[<-hs];simp
  omega
 | be::q,a,st::sq,sa,m,ha,hs,hsa,hm,hK=>by
  have e1:own.length=a.length+(q.length+1):=by rw[<-ha];simp
  have e2:(nth [] (nth [] steps k) i).length=sa.length+(sq.length+1):=by rw[<-hs];simp
  obtain⟨hin,hp0⟩:=eh G.hp;have rbe:=hbe be (by grind);have rst:=hr st (by grind);obtain⟨s1,s2⟩:=Pj G ho rst rbe;have hB:=G.B1
  have ga:=Qs G.hp O (lK b steps) G.b0 G.b1 (B:=Bd) aa (m:=[o,st,be]) (fun d hd=>by
   grind) af
  obtain⟨c,hc⟩:=nmQ (sN (List.replicate p.length 0) [o,st,be])
  have hK':∀v,v=opV b (CR p (match m with
   |none=>some c
   |some m=>some (if wI p c<wI p m then c else m)) o (List.replicate p.length 0) sq q)->K (.exit 4) [v] h:=by
   intro v hv;refine hK v ?_;rw[hv,hc];rfl
  rw[<-hc]at ga s1 s2;have i1:∀H:Hp,ixV H 1 (.d (szL b own)) (I a.length)=some (.dptr (own.map fun r=>szD (szI b r)) a.length):=fun H=>aJ (fun r=>szD (szI b r)) own H rfl aa
  have i2:∀H:Hp,ld1 H (.dptr (own.map fun r=>szD (szI b r)) a.length)=some (szV (szI b be)):=fun H=>by rw[aC (fun r=>szD (szI b r)) [] own H aa,<-ha,bM];rfl
  have f2:∀H:Hp,ld1 H (.dptr (gD p O (lK b steps)) 2)=some (.d (lK b steps)):=fun _=>rfl
  have j1:∀H:Hp,ixV H 1 (.d (lK b steps)) (I k)=some (.dptr (steps.map (ia b)) k):=fun H=>aJ (ia b) steps H rfl hk
  have j2:∀H:Hp,ld1 H (.dptr (steps.map (ia b)) k)=some (.d (ia b (nth [] steps k))):=fun H=>aC (ia b) [] steps H hk
  have j3:∀H:Hp,ixV H 1 (.d (ia b (nth [] steps k))) (I i)=some (.dptr ((nth [] steps k).map (szL b)) i):=fun H=>aJ (szL b) _ H rfl hi
  have j4:∀H:Hp,ld1 H (.dptr ((nth [] steps k).map (szL b)) i)=some (.d (szL b (nth [] (nth [] steps k) i))):=fun H=>aC (szL b) [] _ H hi
  have j5:∀H:Hp,ixV H 1 (.d (szL b (nth [] (nth [] steps k) i))) (I a.length)=some (.dptr ((nth [] (nth [] steps k) i).map fun r=>szD (szI b r)) a.length):=fun H=>aJ (fun r=>szD (szI b r)) _ H rfl aa
  have j6:∀H:Hp,ld1 H (.dptr ((nth [] (nth [] steps k) i).map fun r=>szD (szI b r)) a.length)=some (szV (szI b st)):=fun H=>by rw[aC (fun r=>szD (szI b r)) [] _ H aa,<-hs,<-hsa,bM];rfl
  have li:∀H,cO 3 [nPQ] [(0,szV (szI b o)),(1,szV (szI b st)),(2,szV (szI b be))] H=some ([szD (szI b o),szD (szI b st),szD (szI b be)],H):=fun H=>by
   rfl
  have g:(a.length:Int)<own.length:=aa;have hre:au [] 0 h0 h=h:=aX 0 h0 _ hh.symm;have e3:((a++[be]).length:Int)=(a.length:Int)+1:=af;refine aj ?_;simp[gI,g];refine aT ?_;simp[i1,i2,f2,j1,j2,j3,j4,j5,j6,li];refine cd (args:=[.dptr (gD p O (lK b steps)) 0,lst szD ([o,st,be].map (szI b))]) ga ?_ (by rfl);simp;cases m with
  | none=>
   have ih:=TK G O hk hi ho hr hbe hl hN h h0 hh K q (a++[be]) sq (sa++[st]) (some c) (by grind) (by grind) (by grind) (fun x hx=>by grind) hK';rw[e3]at ih;have nn:∀(k:V->Prop)(u:PU k),rn (rj h .eql (opV b none) (.d nPQ)) k u=k (.d (.bool true)):=fun _ _=>rfl
   simp[nn];refine aT ?_;simp(disch:=try exact ag)[hre];exact ih
  | some x=>
   obtain⟨x1,x2⟩:=hm x rfl
   have ih:=TK G O hk hi ho hr hbe hl hN h h0 hh K q (a++[be]) sq (sa++[st]) (some (if wI p c<wI p x then c else x)) (by grind) (by grind) (by grind) (fun y hy=>by
    grind) hK'
   rw[e3]at ih;have le:=Mc G.hp O (lK b steps) G.b0 G.b1 s1 x1 s2 x2 aa aa
   have nn:∀(k:V->Prop)(u:PU k),rn (rj h .eql (opV b (some x)) (.d nPQ)) k u=k (.d (.bool false)):=fun k u=>by
    have:((szI b x).map tx).length=(p.length-1)+1:=by rw[List.length_map,ci,x1];omega
    show rj h .eql (.d (.sl ((szI b x).map tx).length _)) _ k=_
    rw[this];rfl
   simp[nn];refine cd (args:=[.dptr (gD p O (lK b steps)) 0,szV (szI b c),szV (szI b x)]) le ?_ (by rfl);by_cases g2:wI p c<wI p x
   .rw[if_pos g2]at ih;simp[g2];refine aT ?_;simp(disch:=try exact ag)[hre];exact ih
   .rw[if_neg g2]at ih;simp[g2];refine aT ?_;simp(disch:=try exact ag)[hre];exact ih
def uA(p:LiQ):LLQ->List LLQ->LLQ->LLQ
 |o::os,ss::sss,bs=>((CR p none o (List.replicate p.length 0) ss bs).getD [])::uA p os sss bs
 |_,_,_=>[]
theorem wZ(p:LiQ):∀(o:LLQ)(ss:List LLQ)(bs:LLQ),ss.length=o.length->(uA p o ss bs).length=o.length
 |[],_,_,_=>by rfl
 |o::os,[],bs,h=>by simp at h
 |o::os,s::ss,bs,h=>by simp[uA,wZ p os ss bs (by grind)]
theorem Jj{p:LiQ}{b Bd:Nat}(G:Nf p b Bd){o:LiQ}(ho:o.length=p.length∧bdN Bd o):∀(ss bs:LLQ)(m:Option LiQ),okR p Bd ss->okR p Bd bs->(∀x,m=some x->x.length=p.length∧bdN (Bd+Bd+Bd) x)->(m.isSome=true∨(0<ss.length∧0<bs.length)) ->
  ∃x,CR p m o (List.replicate p.length 0) ss bs=some x∧x.length=p.length∧bdN (Bd+Bd+Bd) x
 | [],bs,m,_,_,hm,h=>by
  rcases h with h|h
  .obtain⟨x,hx⟩:=Yh.1 h;exact⟨x,by cases bs<;>exact hx,hm x hx⟩
  grind
 | _::_,[],m,_,_,hm,h=>by
  rcases h with h|h
  .obtain⟨x,hx⟩:=Yh.1 h;exact⟨x,hx,hm x hx⟩
  grind
 | st::ss,be::bs,m,hs,hb,hm,h=>by
  obtain⟨s1,s2⟩:=Pj G ho (hs st af) (hb be af);simp only[CR];refine Jj G ho ss bs _ (fun r hr=>hs r (by grind)) (fun r hr=>hb r (by grind)) ?_ ?_
  .grind
  .cases m<;>exact .inl rfl
def szE(b:Nat)(r:LiQ):D:=szD (szI b r)
def rsC(A:LwQ)(e L:Nat)(b:Nat)(R:LLQ)(Bb:LwQ):LwQ:=A++.ref 1 e 0 L L L :: .d (szL b R)::Bb
def rsH(c:LwQ)(e:Nat)(d:LLQ)(b:Nat):Hp:=[(1,.vars c),(e,.data 1 (d.map (szE b)) false false)]
theorem aci{p:LiQ}{b Bd:Nat}(G:Nf p b Bd)(O:D){n k:Nat}{steps:List (List LLQ)}{own R:LLQ}{sss:List LLQ}{A Bb:LwQ}{e:Nat}(hA:A.length=k)(hn:(rsC A e own.length b R Bb).length=n)(hk:k<steps.length)(hs:nth [] steps k=sss)(hsl:sss.length=own.length)
  (hN:own.length<1000000) (hnN:n<1000000) (ho:okR p Bd own) (hR:okR p Bd R) (hR0:0<R.length) (hRN:R.length<1000000) (hss:∀ss∈sss,ss.length=R.length∧okR p Bd ss) (h0:Hp) (hh:h0.length=2) (K:KL) :
  ∀(q a:LLQ)(sq sa:List LLQ)(dn:LLQ),a++q=own->sa++sq=sss->sa.length=a.length->dn.length=a.length ->
  K (.exit 2) [] (rsH (rsC A e own.length b R Bb) e (dn++uA p q sq R) b) ->
  lp (gJ (CX Y) (.dptr (gD p O (lK b steps)) 0) (.ref 0 1 0 n n n) (I k) (.d (szL b own)) (I own.length)) [] h0 [I a.length] (rsH (rsC A e own.length b R Bb) e (dn++q) b) K
 | [],a,sq,sa,dn,ha,hsa,hsl2,hd,hK=>by
  have e1:a.length=own.length:=by rw[<-ha];simp
  have e2:sq=[]:=by
   have:sss.length=sa.length+sq.length:=by rw[<-hsa];simp
   exact Zf aa
  subst e2;refine aj ?_;simp only[uA,Y8]at hK;rw[Y8];simp[gJ,e1];exact hK
 | o::q,a,[],sa,dn,ha,hsa,hsl2,hd,hK=>by
  have e1:own.length=a.length+(q.length+1):=by rw[<-ha];simp
  have:sss.length=sa.length:=by rw[<-hsa];simp
  omega
 | o::q,a,ss::sq,sa,dn,ha,hsa,hsl2,hd,hK=>by
  have e1:own.length=a.length+(q.length+1):=by rw[<-ha];simp
  have e2:sss.length=sa.length+(sq.length+1):=by rw[<-hsa];simp
  obtain⟨w1,w2⟩:=hss ss (by grind);have ro:=ho o (by grind);have hns:nth [] (nth [] steps k) a.length=ss:=by rw[hs,<-hsa,<-hsl2,bM]
  obtain⟨x,m1,m2,m3⟩:=Jj G ro ss R none w2 hR (fun _ h=>by cases h) (.inr ⟨aa,hR0⟩);have hl2:=TK G O hk (i:=a.length) (own:=R) (o:=o) (by grind) ro (by grind) hR (by grind) hRN (rsH (rsC A e own.length b R Bb) e (dn++o::q) b) (rsH (rsC A e own.length b R Bb) e (dn++o::q) b) rfl
  have i1:∀H:Hp,ixV H 1 (.d (szL b own)) (I a.length)=some (.dptr (own.map fun r=>szD (szI b r)) a.length):=fun H=>aJ (fun r=>szD (szI b r)) own H rfl aa
  have i2:∀H:Hp,ld1 H (.dptr (own.map fun r=>szD (szI b r)) a.length)=some (szV (szI b o)):=fun H=>by rw[aC (fun r=>szD (szI b r)) [] own H aa,<-ha,bM];rfl
  have hkn:k+1<n:=by rw[<-hn];simp[rsC];omega
  have hg0:∀d,aw (rsH (rsC A e own.length b R Bb) e d b) 0 1=.vars (rsC A e own.length b R Bb):=fun _=>rfl
  have x1:∀d,ixV (rsH (rsC A e own.length b R Bb) e d b) 1 (.ref 0 1 0 n n n) (I ((k:Int)+1))=some (.ptr 0 1 (k+1) n):=fun d=>by
   simp only[ixV,hg0];rw[if_pos ⟨hn.symm,aa,aa⟩];simp
  have x2:∀d,ld1 (rsH (rsC A e own.length b R Bb) e d b) (.ptr 0 1 (k+1) n)=some (.d (szL b R)):=fun d=>by
   simp_all[ld1,rsC]
  have x3:∀d,ixV (rsH (rsC A e own.length b R Bb) e d b) 1 (.ref 0 1 0 n n n) (I k)=some (.ptr 0 1 k n):=fun d=>by
   simp only[ixV,hg0];rw[if_pos ⟨hn.symm,aa,aa⟩];simp
  have x4:∀d,ld1 (rsH (rsC A e own.length b R Bb) e d b) (.ptr 0 1 k n)=some (.ref 1 e 0 own.length own.length own.length):=fun d=>by
   simp only[ld1,hg0,hn,if_true];rw[<-hA];simp[rsC]
  have dl:(dn++o::q).length=own.length:=by simp;omega
  have hg1:aw (rsH (rsC A e own.length b R Bb) e (dn++o::q) b) 1 e=.data 1 ((dn++o::q).map (szE b)) false false:=by simp[aw,rsH]
  have x5:ixV (rsH (rsC A e own.length b R Bb) e (dn++o::q) b) 1 (.ref 1 e 0 own.length own.length own.length) (I a.length)=some (.ptr 1 e a.length own.length):=by
   simp only[ixV,hg1,List.length_map,dl];rw[if_pos ⟨trivial,aa,aa⟩];simp
  have x6:st (rsH (rsC A e own.length b R Bb) e (dn++o::q) b) 1 (.ptr 1 e a.length own.length) (szV (szI b x))=some (rsH (rsC A e own.length b R Bb) e (dn++x::q) b):=by
   show st _ 1 _ (.d (szE b x))=_
   rw[KH];have e3:fh (rsH (rsC A e own.length b R Bb) e (dn++o::q) b) 1 e=.data 1 ((dn++o::q).map (szE b)) false false:=hg1;rw[e3,uv _ _ _ _ _ _ _ _ _ (by rw[List.length_map,dl]) (by grind)];have e4:=wQ (szE b) dn o x q;rw[hd]at e4
   show some (bS _ 1 e (.data 1 (((dn++o::q).map (szE b)).set a.length (szE b x)) false false))=_
   rw[e4];rfl
  have ek:uA p (o::q) (ss::sq) R=x::uA p q sq R:=by simp only[uA,m1];rfl
  rw[ek]at hK;have ih:=aci G O hA hn hk hs hsl hN hnN ho hR hR0 hRN hss h0 hh K q (a++[o]) sq (sa++[ss]) (dn++[x]) (by grind) (by grind) (by grind) (by grind) (by grind);have e5:dn++[x]++q=dn++x::q:=af;have e6:((a++[o]).length:Int)=(a.length:Int)+1:=af;rw[e5,e6]at ih
  have hre:∀d,au [] 0 h0 (rsH (rsC A e own.length b R Bb) e d b)=rsH (rsC A e own.length b R Bb) e d b:=fun d=>aX 0 h0 _ (by simp[rsH,hh])
  have lR:bj (.d (szL b R))=some (I R.length):=rfl;have g:(a.length:Int)<own.length:=aa;refine aj ?_;simp(disch:=try exact ag)[gJ,g,i1,i2,x1,x2,lR];refine lo (hl2 _ R [] ss [] none rfl (by grind) rfl (fun _ h=>by cases h) (fun v hv=>?_));rw[hv,m1];have ho2:opV b (some x)=szV (szI b x):=rfl;rw[ho2]
  have ixe:∀(H:Hp)(n s e off len cap tot:Nat)(z:Int),ixX (fh H s e) n s e off len tot z=ixV H n (.ref s e off len cap tot) (I z):=fun H n s e off len cap tot z=>by
   rfl
  have y3:=(ixe _ 1 0 1 0 n n n k).trans (x3 (dn++o::q));have y5:=(ixe _ 1 1 e 0 own.length own.length own.length a.length).trans x5;simp(disch:=try exact ag)[x3,x4,x5,x6,y3,y5,hre];exact ih
theorem SK{o:Option V}{v:V}{k:V->Prop}(h:o=some v)(hk:k v):bnd o k:=by rw[h];exact hk
def dQ(p:LiQ):List LLQ->List (List LLQ)->List LLQ
 |o::o2::os,ss::sss=>uA p o ss ((dQ p (o2::os) sss).headD [])::dQ p (o2::os) sss
 |l,_=>l
theorem Cs(p:LiQ)(o:LLQ)(os:List LLQ)(sss:List (List LLQ)):∃h t,dQ p (o::os) sss=h::t:=by
 cases os with
 |nil=>exact⟨o,[],by cases sss<;>rfl⟩
 | cons o2 os=>cases sss with
  |nil=>exact⟨_,_,rfl⟩
  |cons ss sss=>exact⟨_,_,rfl⟩
theorem oI(p:LiQ):∀(l:List LLQ)(s:List (List LLQ)),(dQ p l s).length=l.length
 |[],s=>by cases s<;>rfl
 |[o],s=>by cases s<;>rfl
 |o::o2::os,[]=>rfl
 |o::o2::os,ss::sss=>by simp only[dQ,List.length_cons,oI p (o2::os) sss]
theorem UM(b:Nat)(o:LLQ):norm (szL b o)=szL b o:=rfl
theorem Ky{h h1 h2:Hp}:∀{u v:LwQ}{x y:LdQ},iH h u=some (x,h1)->iH h1 v=some (y,h2)->iH h (u++v)=some (x++y,h2)
 |[],v,x,y,e1,e2=>by cases e1;exact e2
 | a::u,v,x,y,e1,e2=>by
  simp only[List.cons_append];unfold iH at e1 ⊢;split at e1
  .rename_i z h3 hz;split at e1
   .rename_i zs h4 hzs;cases e1;rw[Ky hzs e2];rfl
   trivial
  trivial
theorem Ea(b:Nat)(h:Hp):∀l:List LLQ,iH h (l.map fun o=>V.d (szL b o))=some (l.map (szL b),h)
 |[]=>rfl
 | o::l=>by
  have:=Ea b h l
  grind[iH,toD,UM]
def rsS(b:Nat)(l:List LLQ)(s1:Nat×Bk):Hp:=[(1,.vars (l.map fun o=>V.d (szL b o))),s1]
theorem aeA{B:List LLQ}{d:LLQ}:ghS (.cls 0) (rsH ((A.map fun o=>V.d (szL b o))++.ref 1 e 0 d.length d.length d.length::(B.map fun o=>V.d (szL b o))) e d b)=some (rsS b (A++d::B) (e,.data 1 (d.map (szE b)) false true)):=by
 obtain⟨C,hC⟩:∃C,C=(A.map fun o=>V.d (szL b o))++.ref 1 e 0 d.length d.length d.length::(B.map fun o=>V.d (szL b o)):=⟨_,rfl⟩
 have t1:toD (rsH C e d b) (.ref 1 e 0 d.length d.length d.length)=some (szL b d,[(1,.vars C),(e,.data 1 (d.map (szE b)) false true)]):=by
  simp only[toD,rsH,aw,List.getElem?_cons_succ,List.getElem?_cons_zero,if_true,List.length_map];rw[if_pos ⟨trivial,Z7 _,aa⟩];simp only[Zj,Yc];rw[Z6 af];rfl
 have t2:iH (rsH C e d b) C=some (A.map (szL b)++szL b d::B.map (szL b),[(1,.vars C),(e,.data 1 (d.map (szE b)) false true)]):=by
  rw[show iH (rsH C e d b) C=iH (rsH C e d b) ((A.map fun o=>V.d (szL b o))++.ref 1 e 0 d.length d.length d.length::(B.map fun o=>V.d (szL b o))) by rw[<-hC]];refine Ky (Ea b _ A) ?_;unfold iH;rw[t1];simp only[Ea]
 rw[<-hC];have g0:(rsH C e d b)[0]?=some (1,.vars C):=rfl;unfold ghS;simp only[g0,t2]
 show some _=some _
 congr 1;simp[rsS,bS];rfl
theorem D5(b n:Nat):∀l:List LLQ,mI n (l.map fun o=>V.d (szL b o))=true
 |[]=>rfl
 | o::l=>by
  have:=D5 b n l;trivial
theorem acj{p:LiQ}{b Bd:Nat}(G:Nf p b Bd){owns:List LLQ}{steps:List (List LLQ)}(hl:steps.length=owns.length)(hN:owns.length<1000000)(ho:∀o∈owns,0<o.length∧o.length<1000000∧okR p Bd o)
  (hs:∀k,k+1<owns.length->(nth [] steps k).length=(nth [] owns k).length∧∀ss∈nth [] steps k,ss.length=(nth [] owns (k+1)).length∧okR p Bd ss)
  (hB:∀m,m<owns.length->∀r∈dQ p (owns.drop m) (steps.drop m),r.length<1000000∧okR p Bd r) (h0:Hp) (hh:∃e0 b0 x,h0=[x,(e0,b0)]) (K:KL) :
  ∀(m:Nat)(s1:Nat×Bk),m<owns.length->bW 2 s1.2=true ->
  (∀s1,K (.exit 0) [] (rsS b (dQ p owns steps) s1)) ->
  lp (gK (CX Y) (.dptr (gD p (ia b owns) (lK b steps)) 0) (.ref 0 1 0 owns.length owns.length owns.length)) [] h0 [I ((m:Int)-1)] (rsS b (owns.take m++dQ p (owns.drop m) (steps.drop m)) s1) K
 | 0,s1,hm,hk1,hK=>by
  have g:¬(0:Int)<=-1:=aa;refine aj ?_;simp only[V8,Zj,List.nil_append];have e:((0:Nat):Int)-1 = -1:=aa;rw[e];simp[gK]
  grind
 | m+1,s1,hm,hk1,hK=>by
  obtain⟨o,hoe⟩:=nmQ (nth [] owns m);obtain⟨sm,hse⟩:=mnQ (nth [] steps m);obtain⟨o1,o2,o3⟩:=ho o (by rw[hoe];exact aQ aa);obtain⟨sl,sr⟩:=hs m aa;rw[hse,<-hoe]at sl;rw[hse]at sr;have d1:owns.drop m=o::owns.drop (m+1):=by rw[hoe,aN [] owns m aa];exact Z0 aa
  have d2:steps.drop m=sm::steps.drop (m+1):=by rw[<-hse,aN [] steps m aa];exact Z0 aa
  obtain⟨u,us,hu⟩:∃u us,owns.drop (m+1)=u::us:=⟨_,_,Z0 hm⟩;obtain⟨r0,rt,hr⟩:=Cs p u us (steps.drop (m+1));have hrl:=oI p (owns.drop (m+1)) (steps.drop (m+1));have hBm:=hB (m+1) hm;rw[hu]at hrl hBm;rw[hr]at hrl hBm;obtain⟨b1,b2⟩:=hBm r0 af;have hul:(u::us).length=owns.length-(m+1):=by rw[<-hu,Yo]
  have e0:dQ p (owns.drop m) (steps.drop m)=uA p o sm r0::r0::rt:=by
   rw[d1,d2,hu];simp only[dQ,hr,List.headD_cons]
  have tk:owns.take (m+1)=owns.take m++[o]:=by
   rw[hoe,Xp,List.getElem?_eq_getElem (show m<owns.length by omega),aN [] owns m aa];rfl
  have ol:owns.length<1000000:=hN;have tl:(owns.take m).length=m:=by rw[Zr];omega
  obtain⟨e1,k1⟩:=s1
  have hun:nth [] owns (m+1)=u:=by
   rw[aN [] owns (m+1) hm];have:=Z0 hm;rw[hu]at this;exact((List.cons.inj this).1).symm
  have hr0:r0.length=u.length:=by
   cases us with
   | nil=>
    have:dQ p [u] (steps.drop (m+1))=[u]:=by cases steps.drop (m+1)<;>rfl
    grind
   | cons u2 us=>
    have h2:m+1+1<owns.length:=by simp at hul;omega
    have d3:steps.drop (m+1)=nth [] steps (m+1)::steps.drop (m+1+1):=by rw[aN [] steps (m+1) aa];exact Z0 aa
    grind[dQ,wZ]
  have u0:0<u.length:=by rw[<-hun];exact(ho _ (aQ aa)).1
  have hss:∀ss∈sm,ss.length=r0.length∧okR p Bd ss:=by
   intro ss h;obtain⟨q1,q2⟩:=sr ss h;exact⟨by rw[q1,hun,hr0],q2⟩
  have ih:=acj G hl hN ho hs hB h0 hh K m (e1+1,.data 1 ((uA p o sm r0).map (szE b)) false true) aa rfl hK;rw[e0]at ih
  have cl:=OK (h:=rsS b (owns.take (m+1)++dQ p (owns.drop (m+1)) (steps.drop (m+1))) (e1,k1)) (by
   have h1:=D5 b 2 (owns.take (m+1)++dQ p (owns.drop (m+1)) (steps.drop (m+1)));simp only[rsS,List.all_cons,List.all_nil,Y4,List.length_cons,List.length_nil,Z8];trivial) (cells:=o.map fun r=>szD (szI b r)) (by grind) (by grind)
  rw[tk,hu,hr]at cl ⊢;simp only[List.append_assoc,List.singleton_append]at cl ⊢;simp only[List.length_cons]at hrl hul;obtain⟨AV,hAV⟩:=nmQ ((owns.take m).map fun o=>V.d (szL b o))
  have AVl:AV.length=m:=by rw[hAV,List.length_map,tl]
  have ecs:((owns.take m++o::r0::rt).map fun o=>V.d (szL b o))=AV++.d (szL b o) :: .d (szL b r0)::rt.map fun o=>V.d (szL b o):=by rw[hAV];simp
  have ncs:(AV++V.d (szL b o) :: .d (szL b r0)::rt.map fun o=>V.d (szL b o)).length=owns.length:=by
   simp;omega
  have f1:∀H:Hp,ld1 H (.dptr (gD p (ia b owns) (lK b steps)) 1)=some (.d (ia b owns)):=fun _=>rfl
  have i1:∀H:Hp,ixV H 1 (.d (ia b owns)) (I m)=some (.dptr (owns.map (szL b)) m):=fun H=>aJ (szL b) owns H rfl aa
  have i2:∀H:Hp,ld1 H (.dptr (owns.map (szL b)) m)=some (.d (szL b o)):=fun H=>by rw[aC (szL b) [] owns H aa,hoe]
  have hm1:((m+1:Nat):Int)-1=(m:Int):=aa;rw[hm1];have g:(0:Int)<=(m:Int):=aa;have esz:V.d (szL b o)=.d (.sl (o.map fun r=>szD (szI b r)).length (o.map fun r=>szD (szI b r))):=by rw[List.length_map];rfl
  refine aj ?_;simp[gK,g,f1,i1,i2];rw[esz];refine jC (fe (e:=e1) (b:=k1) cl rfl ?_);rw[List.length_map];obtain⟨RT,hRT⟩:=nmQ (rt.map fun o=>V.d (szL b o))
  rw[<-hRT]at ecs ncs;obtain⟨C,hC⟩:∃C,C=AV++V.d (szL b o) :: .d (szL b r0)::RT:=⟨_,rfl⟩
  have eH:(rsS b (owns.take m++o::r0::rt) (e1,k1)).set 1 (e1+1,.data 1 (o.map fun r=>szD (szI b r)) false false)=rsH C (e1+1) o b:=by
   rw[hC,<-ecs];rfl
  rw[eH];have hg0:aw (rsH C (e1+1) o b) 0 1=.vars C:=rfl;have hCl:C.length=owns.length:=by rw[hC];exact ncs
  have x3:ixV (rsH C (e1+1) o b) 1 (.ref 0 1 0 owns.length owns.length owns.length) (I m)=some (.ptr 0 1 m owns.length):=by
   simp only[ixV,hg0];rw[if_pos ⟨hCl.symm,aa,aa⟩];simp
  have y4:stX (fh (rsH C (e1+1) o b) 0 1) (rsH C (e1+1) o b) 0 1 m owns.length [.ref 1 (e1+1) 0 o.length o.length o.length]=some (rsH (rsC AV (e1+1) o.length b r0 RT) (e1+1) o b):=by
   have hg1:fh (rsH C (e1+1) o b) 0 1=.vars C:=rfl;rw[hg1,S9,if_pos ⟨hCl.symm,by grind,rfl⟩];have t1:C.take m=AV:=by rw[hC,<-AVl];simp
   have t2:C.drop (m+1)=.d (szL b r0)::RT:=by rw[hC,<-AVl];simp
   show some (bS _ 0 1 (.vars (C.take m++[V.ref 1 (e1+1) 0 o.length o.length o.length]++C.drop (m+1))))=_
   rw[t1,t2];simp[bS,rsH,rsC]
  have hn':(rsC AV (e1+1) o.length b r0 RT).length=owns.length:=by
   rw[<-hCl,hC];simp[rsC]
  have l1:=aci G (ia b owns) (n:=owns.length) (k:=m) (steps:=steps) (own:=o) (R:=r0) (sss:=sm) (A:=AV) (Bb:=RT) (e:=e1+1) AVl hn' aa hse sl o2 aa o3 b2 aa b1 hss
   (rsH (rsC AV (e1+1) o.length b r0 RT) (e1+1) o b) rfl
  have lO:bj (.d (szL b o))=some (I o.length):=rfl;have rl:(uA p o sm r0).length=o.length:=wZ p o sm r0 sl;have cls:=aeA (b:=b) (e:=e1+1) (A:=owns.take m) (B:=r0::rt) (d:=uA p o sm r0)
  have eC:((owns.take m).map fun o=>V.d (szL b o))++.ref 1 (e1+1) 0 (uA p o sm r0).length (uA p o sm r0).length (uA p o sm r0).length::((r0::rt).map fun o=>V.d (szL b o))=rsC AV (e1+1) o.length b r0 RT:=by
   rw[rl,hAV,hRT];rfl
  rw[eC]at cls;obtain⟨ea,ka,xa,hh2⟩:=hh;have hre:∀l s,au [] 0 h0 (rsS b l s)=rsS b l s:=fun l s=>aX 0 h0 _ (by rw[hh2];rfl)
  have ixe:∀(H:Hp)(n s e off len cap tot:Nat)(z:Int),ixX (fh H s e) n s e off len tot z=ixV H n (.ref s e off len cap tot) (I z):=fun H n s e off len cap tot z=>by
   rfl
  have y3:=(ixe _ 1 0 1 0 owns.length owns.length owns.length m).trans x3;simp[x3,y3];rw[y4];simp[f1,i1,i2,lO];refine lo (l1 _ o [] sm [] [] rfl rfl rfl rfl ?_);rw[List.nil_append]
  show ghG _ _ _
  refine acC cls ?_;unfold ghG;have g5:biI .sub (I m) (.d (.int .i64 1))=some (I ((m:Int)-1)):=by rw[rT,wrap_i64 aa]
  refine SK g5 ?_;refine⟨af,?_⟩
  grind
structure ZE(p:LiQ)(b Bd:Nat)(owns:List LLQ)(steps:List (List LLQ)):Prop where
 g:Nf p b Bd
 ne:0<owns.length
 hl:steps.length=owns.length
 hN:owns.length<1000000
 ho:∀o∈owns,0<o.length∧o.length<1000000∧okR p Bd o
 hs:∀k,k+1<owns.length->(nth [] steps k).length=(nth [] owns k).length∧∀ss∈nth [] steps k,ss.length=(nth [] owns (k+1)).length∧okR p Bd ss
 hB:∀m,m<owns.length->∀r∈dQ p (owns.drop m) (steps.drop m),r.length<1000000∧okR p Bd r
theorem Mp(b:Nat):∀l:List LLQ,Mq (l.map fun o=>V.d (szL b o))=some (l.map (szL b))
 |[]=>rfl
 | o::l=>by
  have:=Mp b l
  grind[Mq]
theorem Ua(c:ZE p b Bd owns steps):
  CP Y F.cE [.dptr (gD p (ia b owns) (lK b steps)) 0] (.tup [.d (ia b (dQ p owns steps)),I 0]):=by
 refine uj ?_;obtain⟨n,hn⟩:∃n,owns.length=n+1:=⟨owns.length-1,by have:=c.ne;omega⟩;have hN:=c.hN;have f1:∀H:Hp,ld1 H (.dptr (gD p (ia b owns) (lK b steps)) 1)=some (.d (ia b owns)):=fun _=>rfl
 have ml:(owns.map (szL b)).length=owns.length:=List.length_map _;have cl:=OL (h:=[nnQ,nnQ]) rfl (cells:=owns.map (szL b)) aa aa;have esz:V.d (ia b owns)=.d (.sl (owns.map (szL b)).length (owns.map (szL b))):=by rw[List.length_map];rfl
 have go:ghS (.opn 0) [(1,.data 1 (owns.map (szL b)) false false),nnQ]=some (rsS b owns nnQ):=by
  show some (bS _ 0 1 (.vars ((owns.map (szL b)).map .d)))=_
  simp[bS,rsS]
 have lO:bj (.d (ia b owns))=some (I owns.length):=rfl;simp[cE,f1];rw[esz];refine jC (fe (e:=0) (b:=.none) cl rfl ?_);refine acC go ?_;unfold ghG;rw[ml];have g2:∀H:Hp,ld1 H (.dptr (gD p (ia b owns) (lK b steps)) (0+1))=some (.d (ia b owns)):=fun _=>rfl
 have r0:=acj c.g c.hl c.hN c.ho c.hs c.hB (rsS b owns nnQ) ⟨0,.none,_,rfl⟩ (exK [(Exit.exit 0,fun l10 h=>out (V.tup [.d (ia b (dQ p owns steps)),I 0]) (V.tup [.ref 0 1 0 owns.length owns.length owns.length,I 0]) h),(Exit.ret,fun l10 h=>out (V.tup [.d (ia b (dQ p owns steps)),I 0]) (V.tup [ge l10 0,ge l10 1]) h)]) n nnQ aa rfl (fun s1=>by
  have hl:=oI p owns steps;refine aG (h2:=[(1,.data 1 ((dQ p owns steps).map (szL b)) false true),s1]) ?_ rfl;simp only[bJ,toD,rsS,aw,List.getElem?_cons_zero,if_true,Mp,List.length_map,hl]
  grind[Z6,ia,bS])
 have e1:owns.take n++dQ p (owns.drop n) (steps.drop n)=owns:=by
  have:(owns.drop n).length=1:=by rw[Yo];omega
  obtain⟨x,hx⟩:=List.length_eq_one_iff.1 this;have:dQ p (owns.drop n) (steps.drop n)=owns.drop n:=by rw[hx];cases steps.drop n<;>rfl
  rw[this,Yi]
 rw[e1]at r0;have g3:(owns.length:Int)-2=(n:Int)-1:=aa;simp(disch:=try exact ag)[g2,lO,g3];exact r0
theorem Jw(h t:Hp)(i:Nat):(h++t)[h.length+i]?=t[i]?:=by rw[List.getElem?_append_right aa,Nat.add_sub_cancel_left]
theorem wR(h t:Hp)(i:Nat)(x:Nat×Bk):(h++t).set (h.length+i) x=h++t.set i x:=by rw[List.set_append_right _ _ aa,Nat.add_sub_cancel_left]
theorem qQ(h t:Hp)(i e:Nat):aw (h++t) (h.length+i) e=aw t i e:=by simp[aw,Jw]
theorem DF(h t:Hp)(i e o n:Nat):ld1 (h++t) (.ptr (h.length+i) e o n)=ld1 t (.ptr i e o n):=by simp[ld1,qQ]
theorem Qk(h t:Hp)(m i e o n:Nat):ldA (h++t) m (.ptr (h.length+i) e o n)=ldA t m (.ptr i e o n):=by simp[ldA,qQ]
theorem Ac(h:∀t∈clr,t≠s):dw clr s=true:=by
 induction clr with
 |nil=>rfl
 | cons t l ih=>
  rw[vq,beq_lit,decide_eq_false (h t af),ih fun u hu=>h u (by grind)];rfl
theorem Np(hc:∀t∈clr,b<=t):∀x:V,under b x=true->kH clr x=true:=by
 intro x
 induction x using V.rec (motive_2:=fun l=>mI b l=true->dT clr l=true)with
 |agg l ih=>trivial
 |tup l ih=>trivial
 | fn g a c iha ihc=>
  grind[under,kH]
 |ifc t x ih=>trivial
 |nil=>rfl
 | cons x l ih ihl h=>
  grind[mI,dT]
 | ref s e off len cap tot=>
  intro h;have:s<b:=by simpa[under,Nat.blt_eq]using h
  exact Ac fun t ht=>by grind
 | ptr s e off tot=>
  intro h;have:s<b:=by simpa[under,Nat.blt_eq]using h
  exact Ac fun t ht=>by grind
 |_=>intro _;rfl
theorem Cm{clr:LnQ}{b:Nat}(hc:∀t∈clr,b<=t):∀l:LwQ,mI b l=true->dT clr l=true
 |[],_=>rfl
 | x::l,h=>by
  simp only[mI,Z8]at h;simp only[dT,Np hc x h.1,Cm hc l h.2,Y4]
theorem Nq(hc:∀t∈clr,b<=t)(x:Bk)(h:bW b x=true):offB clr x=true:=by
 cases x with
 |vars l=>exact Cm hc l h
 |_=>rfl
theorem Lx{clr:LnQ}{b:Nat}(hc:∀t∈clr,b<=t):∀(h t:Hp)(i:Nat),(h.all fun x=>bW b x.2)=true->qk clr (i+h.length) t=true->qk clr i (h++t)=true
 |[],t,i,_,ht=>ht
 | x::h,t,i,hu,ht=>by
  simp only[List.all_cons,Z8]at hu;rw[List.cons_append,jm,Nq hc _ hu.1,X1,Zg];refine Lx hc h t (i+1) hu.2 ?_;rw[List.length_cons]at ht;rw[show i+1+h.length=i+(h.length+1) by omega];exact ht
theorem Bu{clr:LnQ}:∀(h t t0:Hp)(i:Nat),(∀c∈clr,i+h.length<=c)->au clr i (h++t0) (h++t)=h++au clr (i+h.length) t0 t
 |[],t,t0,i,_=>rfl
 | x::h,t,t0,i,hc=>by
  rw[List.cons_append,List.cons_append,vi,Ac (s:=i) (fun c hcc=>by grind),if_pos rfl,Bu h t t0 (i+1) (fun c hcc=>by grind)];rw[List.length_cons,List.cons_append,show i+1+h.length=i+(h.length+1) by omega]
def mX(a:Ad)(k:Nat):LLQ:=(List.range (nth [] a.cd k).length).map (uB a k)
def lV(a:Ad)(k i:Nat):LLQ:=(List.range (nth [] a.cd (k+1)).length).map (stW a k i)
def ko(a:Ad)(k:Nat):List LLQ:=(List.range (nth [] a.cd k).length).map (lV a k)
def kG(a:Ad):List LLQ:=(List.range a.cd.length).map (mX a)
def gO(a:Ad):List (List LLQ):=(List.range a.cd.length).map (ko a)
theorem adu(G:cI a)(k i j:Nat):szI 1 (zJ a k i j)=szI a.w.2 (stW a k i j):=Ny (G.w0.1.1) _
def wgA(h:Hp)(i:Nat):Acc:=⟨h.length+i,0,1,.none⟩
def wgH(h:Hp)(a:Ad)(s1 s2 s3 s4 s5 s6:Nat×Bk):Hp:=h++[adB a,s1,s2,s3,s4,s5,s6]
theorem O3(h:Hp)(a:Ad)(s1 s2 s3 s4 s5 s6:Nat×Bk):(wgH h a s1 s2 s3 s4 s5 s6).length=h.length+7:=by simp[wgH]
theorem SI(h:Hp)(a:Ad)(s1 s2 s3 s4 s5 s6:Nat×Bk):ld1 (wgH h a s1 s2 s3 s4 s5 s6) (.ptr h.length 1 3 6)=some (lst aA a.cd):=by have:=DF h [adB a,s1,s2,s3,s4,s5,s6] 0 1 3 6;trivial
theorem ab8(h:Hp)(a:Ad)(s1 s2 s3 s4 s5 s6:Nat×Bk):ldA (wgH h a s1 s2 s3 s4 s5 s6) 6 (.ptr h.length 1 0 6)=some (.agg (adC a)):=by have:=Qk h [adB a,s1,s2,s3,s4,s5,s6] 6 0 1 0 6;trivial
def stC(a:Ad)(k i n:Nat):LdQ:=(List.range n).map fun t=>szE a.w.2 (stW a k i t)
theorem Ta(a:Ad)(k i n:Nat):stC a k i (n+1)=stC a k i n++[szE a.w.2 (stW a k i n)]:=by simp[stC,Y3]
theorem ab5(G:cI a){k i:Nat}(hk:k<a.cd.length)(hi:i<(nth [] a.cd k).length){h:Hp}{s1 s2 s4 s5 s6:Nat×Bk}(h0:Hp)(hh:h0.length=h.length+7)(K:KL) :
  ∀(m j:Nat),j+m=(nth [] a.cd (k+1)).length ->
  K (.exit 4) [(wgA h 3).v (nth [] a.cd (k+1)).length (stC a k i (nth [] a.cd (k+1)).length)] (wgH h a s1 s2 ((wgA h 3).b (nth [] a.cd (k+1)).length (stC a k i (nth [] a.cd (k+1)).length)) s4 s5 s6) ->
  lp (iQ (CX Y) h.length (.ptr h.length 1 0 6) (mat (mb a)) (I k) (I i)) [] h0 [(wgA h 3).v j (stC a k i j),I j] (wgH h a s1 s2 ((wgA h 3).b j (stC a k i j)) s4 s5 s6) K
 | 0,j,hj,hK=>by
  have h5:=G.five;have hcl:=G.cl;have w3:=SI h a s1 s2 ((wgA h 3).b j (stC a k i j)) s4 s5 s6;have ej:(nth [] a.cd (k+1)).length=j:=aa;rw[ej]at hK;have lc:bj (lst aA a.cd)=some (I a.cd.length):=rfl;refine aj ?_;by_cases g:k+1<a.cd.length
  .have i1:∀H:Hp,ixV H 1 (lst aA a.cd) (I ((k:Int)+1))=some (.dptr (a.cd.map aA) (k+1)):=fun H=>aJ aA _ H aa g
   have i2:∀H:Hp,ld1 H (.dptr (a.cd.map aA) (k+1))=some (mat (nth [] a.cd (k+1))):=fun H=>aC aA [] a.cd H g
   have lm:bj (mat (nth [] a.cd (k+1)))=some (I j):=by rw[<-ej];rfl
   have g':(k:Int)+1<a.cd.length:=aa;simp(disch:=try exact ag)[iQ,w3,lc,g',i1,i2,lm];exact hK
  .have g':¬(k:Int)+1<a.cd.length:=aa;simp(disch:=try exact ag)[iQ,w3,lc,g'];exact hK
 | m+1,j,hj,hK=>by
  have h5:=G.five;have hcl:=G.cl;have hlen:=G.wk.len
  have g:k+1<a.cd.length:=by
   by_cases g:k+1<a.cd.length
   .exact g
   .have:nth [] a.cd (k+1)=[]:=by unfold nth;rw[Zy,List.getElem?_eq_none aa];rfl
    grind
  have hn20:(nth [] a.cd (k+1)).length<=20:=(G.cn _ (aQ (d:=[]) g)).2;have w3:=SI h a s1 s2 ((wgA h 3).b j (stC a k i j)) s4 s5 s6;have w6:=ab8 h a s1 s2 ((wgA h 3).b j (stC a k i j)) s4 s5 s6;have lc:bj (lst aA a.cd)=some (I a.cd.length):=rfl;have i1:∀H:Hp,ixV H 1 (lst aA a.cd) (I ((k:Int)+1))=some (.dptr (a.cd.map aA) (k+1)):=fun H=>aJ aA _ H aa g
  have i2:∀H:Hp,ld1 H (.dptr (a.cd.map aA) (k+1))=some (mat (nth [] a.cd (k+1))):=fun H=>aC aA [] a.cd H g
  have lm:bj (mat (nth [] a.cd (k+1)))=some (I (nth [] a.cd (k+1)).length):=rfl;have g':(k:Int)+1<a.cd.length:=aa;have gj:(j:Int)<(nth [] a.cd (k+1)).length:=aa;have so:=step_ok G (i:=k) (f:=i) (t:=j) aa hi aa;rw[adu G]at so;have ih:=ab5 G hk hi (h:=h) (s1:=s1) (s2:=s2) (s4:=s4) (s5:=s5) (s6:=s6) h0 hh K m (j+1) aa hK;rw[Ta]at ih
  have li:∀H,cO 1 [nPQ] [(0,szV (szI a.w.2 (stW a k i j)))] H=some ([szE a.w.2 (stW a k i j)],H):=fun H=>by
   rfl
  have cl:(stC a k i j).length=j*1:=by simp[stC]
  refine aj ?_;simp(disch:=try exact ag)[iQ,w3,w6,lc,g',i1,i2,lm,gj];refine cd so ?_;simp[li];refine hO (wgA h 3) (L:=j) (k:=1) (cells:=stC a k i j) (cs:=[szE a.w.2 (stW a k i j)]) aa (by simp[wgH,wgA]) cl rfl rfl (fun t e=>by cases e) aa (by show 0<1;decide) ?_
  have eS:(wgH h a s1 s2 ((wgA h 3).b j (stC a k i j)) s4 s5 s6).set (wgA h 3).s ((wgA h 3).b (j+1) (stC a k i j++[szE a.w.2 (stW a k i j)]))=wgH h a s1 s2 ((wgA h 3).b (j+1) (stC a k i j++[szE a.w.2 (stW a k i j)])) s4 s5 s6:=by
   unfold wgH wgA;rw[wR];rfl
  rw[eS];have hre:∀x,au [] 0 h0 (wgH h a s1 s2 x s4 s5 s6)=wgH h a s1 s2 x s4 s5 s6:=fun x=>aX 0 h0 _ (by rw[hh,O3])
  have g2:biI .add (I j) (.d (.int .i64 1))=some (I ((j+1:Nat):Int)):=wE aa
  simp_all
theorem yZ{h h':Hp}{v:V}(ht:toD h v=some (x,h'))(hv:(∃y,v=.d y)∨∃s e o l c t,v=.ref s e o l c t):cO 1 [nPQ] [(0,v)] h=some ([x],h'):=by
 rcases hv with⟨y,rfl⟩|⟨s,e,o,l,c,t,rfl⟩
 .simp[cO,jv,iH,ht]
 .simp[cO,jv,iH,ht]
theorem pU(A:Acc)(L:Nat)(c:LdQ):(∃y,A.v L c=.d y)∨∃s e o l c' t,A.v L c=.ref s e o l c' t:=by
 cases L with
 |zero=>exact .inl ⟨_,rfl⟩
 |succ L=>simp
theorem oA(A:Acc){h:Hp}(hs:h[A.s]?=some (A.b L c))(hc:c.length=L*A.n):∃fr,toD h (A.v L c)=some (.sl L c,if L=0 then h else h.set A.s (A.e+1,.data A.n c false fr)):=by
 refine⟨true,?_⟩;cases L with
 | zero=>
  have:c=[]:=Zf aa;subst this;rfl
 | succ L=>
  have hg:aw h A.s (A.e+1)=.data A.n c false false:=by simp only[aw,hs,Acc.b,if_true]
  simp only[Acc.v,toD,hg,true_and,Zp];rw[if_pos ⟨Z7 _,aa⟩,if_neg aa];simp only[Zj,bS];rw[Z6 aa]
variable{a:Ad}{h:Hp}
theorem Kl{clr:LnQ}(hc:∀t∈clr,h.length<=t)(hu:(h.all fun x=>bW h.length x.2)=true){l:LwQ}(hl:dT clr l=true){s1 s2 s3 s4 s5 s6:Nat×Bk}(b1:offB clr s1.2=true)(b2:offB clr s2.2=true)(b3:offB clr s3.2=true)
  (b4:offB clr s4.2=true) (b5:offB clr s5.2=true) (b6:offB clr s6.2=true):clean clr l (wgH h a s1 s2 s3 s4 s5 s6)=true:=by unfold clean;rw[hl,Zg];refine Lx hc _ _ 0 hu ?_;have b0:offB clr (adB a).2=true:=rfl;simp only[jm,b0,b1,b2,b3,b4,b5,b6,X1,Zg];rfl
theorem adj{t2 t4:Nat×Bk}:au [h.length+3] 0 (wgH h a t1 t2 nnQ t4 t5 t6) (wgH h a s1 s2 s3 s4 s5 s6)=wgH h a s1 s2 nnQ s4 s5 s6:=by unfold wgH;rw[Bu _ _ _ _ af];simp[vi,Hu,vq,BE]
theorem SH:au [h.length+2,h.length+3,h.length+4] 0 (wgH h a t1 nnQ nnQ nnQ t5 t6) (wgH h a s1 s2 s3 s4 s5 s6)=wgH h a s1 nnQ nnQ nnQ s5 s6:=by unfold wgH;rw[Bu _ _ _ _ af];simp[vi,Hu,vq,BE]
def owC(a:Ad)(k n:Nat):LdQ:=(List.range n).map fun i=>szE a.w.2 (uB a k i)
theorem UD(a:Ad)(k n:Nat):owC a k (n+1)=owC a k n++[szE a.w.2 (uB a k n)]:=by simp[owC,Y3]
def skC(a:Ad)(k n:Nat):LdQ:=(List.range n).map fun i=>szL a.w.2 (lV a k i)
theorem Tr(a:Ad)(k n:Nat):skC a k (n+1)=skC a k n++[szL a.w.2 (lV a k n)]:=by simp[skC,Y3]
theorem ZQ(a:Ad)(k i:Nat):D.sl (nth [] a.cd (k+1)).length (stC a k i (nth [] a.cd (k+1)).length)=szL a.w.2 (lV a k i):=by simp only[szL,lV,List.length_map,Y0,Yy];rfl
theorem aau(a:Ad)(k:Nat):D.sl (nth [] a.cd k).length (owC a k (nth [] a.cd k).length)=szL a.w.2 (mX a k):=by simp only[szL,mX,List.length_map,Y0,Yy];rfl
theorem Tq(a:Ad)(k:Nat):D.sl (nth [] a.cd k).length (skC a k (nth [] a.cd k).length)=ia a.w.2 (ko a k):=by simp only[ia,ko,List.length_map,Y0,Yy];rfl
theorem tT(h:Hp)(a:Ad)(s1 s2 s3 s4 s5 s6:Nat×Bk)(i:Nat):(wgH h a s1 s2 s3 s4 s5 s6)[h.length+i]?=([adB a,s1,s2,s3,s4,s5,s6]:Hp)[i]?:=by simp[wgH,Jw]
theorem O2(h:Hp)(a:Ad)(s1 s2 s3 s4 s5 s6 x:Nat×Bk):(wgH h a s1 s2 s3 s4 s5 s6).set (h.length+2) x=wgH h a s1 x s3 s4 s5 s6:=by simp[wgH]
theorem ZG(h:Hp)(a:Ad)(s1 s2 s3 s4 s5 s6 x:Nat×Bk):(wgH h a s1 s2 s3 s4 s5 s6).set (h.length+3) x=wgH h a s1 s2 x s4 s5 s6:=by simp[wgH]
theorem O1(h:Hp)(a:Ad)(s1 s2 s3 s4 s5 s6 x:Nat×Bk):(wgH h a s1 s2 s3 s4 s5 s6).set (h.length+4) x=wgH h a s1 s2 s3 x s5 s6:=by simp[wgH]
theorem O0(h:Hp)(a:Ad)(s1 s2 s3 s4 s5 s6 x:Nat×Bk):(wgH h a s1 s2 s3 s4 s5 s6).set (h.length+5) x=wgH h a s1 s2 s3 s4 x s6:=by simp[wgH]
theorem OZ(h:Hp)(a:Ad)(s1 s2 s3 s4 s5 s6 x:Nat×Bk):(wgH h a s1 s2 s3 s4 s5 s6).set (h.length+6) x=wgH h a s1 s2 s3 s4 s5 x:=by simp[wgH]
theorem I8(hc:∀t∈clr,t≠h.length+i):kH clr ((wgA h i).v L c)=true:=oe _ _ _ _ (Ac hc)
theorem ab6(G:cI a){k:Nat}(hk:k<a.cd.length)(hu:(h.all fun x=>bW h.length x.2)=true){s1 s5 s6:Nat×Bk}(b1:offB [h.length+3] s1.2=true)(b5:offB [h.length+3] s5.2=true)(b6:offB [h.length+3] s6.2=true)
  (K:KL) (hK:∀s3,offB [h.length+2,h.length+3,h.length+4] (s3:Nat×Bk).2=true->K (.exit 2) [(wgA h 2).v (nth [] a.cd k).length (owC a k (nth [] a.cd k).length),(wgA h 4).v (nth [] a.cd k).length (skC a k (nth [] a.cd k).length)]
   (wgH h a s1 ((wgA h 2).b (nth [] a.cd k).length (owC a k (nth [] a.cd k).length)) s3 ((wgA h 4).b (nth [] a.cd k).length (skC a k (nth [] a.cd k).length)) s5 s6)) :
  ∀(m i:Nat),i+m=(nth [] a.cd k).length ->
  lp (kL (CX Y) h.length (.ptr h.length 1 0 6) (mat (mb a)) (I k) (I (nth [] a.cd k).length)) [h.length+3] (wgH h a s1 nnQ nnQ nnQ s5 s6) [(wgA h 2).v i (owC a k i),(wgA h 4).v i (skC a k i),I i]
   (wgH h a s1 ((wgA h 2).b i (owC a k i)) nnQ ((wgA h 4).b i (skC a k i)) s5 s6) K
 | 0,i,hi=>by
  have ei:(nth [] a.cd k).length=i:=aa;rw[ei]at hK ⊢;refine aj ?_;simp[kL];exact hK _ rfl
 | m+1,i,hi=>by
  have h5:=G.five;have hcl:=G.cl;have hn20:(nth [] a.cd k).length<=20:=(G.cn _ (aQ (d:=[]) hk)).2;have oo:=adQ G hk (k:=i) aa;have w6:=fun s2 s3 s4=>ab8 h a s1 s2 s3 s4 s5 s6
  have ih:=ab6 G hk hu b1 b5 b6 K hK m (i+1) aa;rw[UD,Tr]at ih
  have li:∀H,cO 1 [nPQ] [(0,szV (szI a.w.2 (uB a k i)))] H=some ([szE a.w.2 (uB a k i)],H):=fun H=>by
   rfl
  have g:(i:Int)<(nth [] a.cd k).length:=aa;have c1:(owC a k i).length=i*1:=by simp[owC]
  have c2:(skC a k i).length=i*1:=by simp[skC]
  have l2:=fun s2 s4 (H0:Hp) hH K2=>ab5 G hk (i:=i) aa (h:=h) (s1:=s1) (s2:=s2) (s4:=s4) (s5:=s5) (s6:=s6) H0 hH K2 _ 0 (Zp _)
  refine aj ?_;simp[kL,w6,g];refine cd oo ?_;simp[li];refine hO (wgA h 2) (L:=i) (k:=1) (cells:=owC a k i) (cs:=[szE a.w.2 (uB a k i)]) aa (tT ..) c1 rfl rfl (fun t e=>by cases e) aa (by show 0<1;decide) ?_;rw[show(wgA h 2).s=h.length+2 from rfl,O2];obtain⟨B2,hB2⟩:∃B,B=(wgA h 2).b (i+1) (owC a k i++[szE a.w.2 (uB a k i)]):=⟨_,rfl⟩
  have o2:offB [h.length+3] B2.2=true:=by rw[hB2];exact fO _ _ _ _ rfl
  rw[<-hB2]at ih ⊢;simp;refine lo (l2 _ _ _ (O3 ..) _ ?_);have cs:(stC a k i (nth [] a.cd (k+1)).length).length=(nth [] a.cd (k+1)).length*1:=by simp[stC]
  obtain⟨fr,td⟩:=oA (wgA h 3) (h:=wgH h a s1 B2 ((wgA h 3).b (nth [] a.cd (k+1)).length (stC a k i (nth [] a.cd (k+1)).length)) ((wgA h 4).b i (skC a k i)) s5 s6) (L:=(nth [] a.cd (k+1)).length) (c:=stC a k i (nth [] a.cd (k+1)).length) (tT ..) cs;rw[ZQ]at td;have li2:=yZ td (pU ..)
  obtain ⟨s3,e3,b3⟩:∃s3:Nat×Bk,(if(nth [] a.cd (k+1)).length=0 then wgH h a s1 B2 ((wgA h 3).b (nth [] a.cd (k+1)).length (stC a k i (nth [] a.cd (k+1)).length)) ((wgA h 4).b i (skC a k i)) s5 s6
    else(wgH h a s1 B2 ((wgA h 3).b (nth [] a.cd (k+1)).length (stC a k i (nth [] a.cd (k+1)).length)) ((wgA h 4).b i (skC a k i)) s5 s6).set (wgA h 3).s ((wgA h 3).e+1,.data (wgA h 3).n (stC a k i (nth [] a.cd (k+1)).length) false fr)) =
    wgH h a s1 B2 s3 ((wgA h 4).b i (skC a k i)) s5 s6∧offB [h.length+3] s3.2=true:=by
   by_cases z:(nth [] a.cd (k+1)).length=0
   .rw[if_pos z];exact⟨_,rfl,fO _ _ _ _ rfl⟩
   .rw[if_neg z,show(wgA h 3).s=h.length+3 from rfl,ZG];exact⟨_,rfl,rfl⟩
  rw[e3]at li2;simp[li2];refine hO (wgA h 4) (L:=i) (k:=1) (cells:=skC a k i) (cs:=[szL a.w.2 (lV a k i)]) aa (tT ..) c2 rfl rfl (fun t e=>by cases e) aa (by show 0<1;decide) ?_;rw[show(wgA h 4).s=h.length+4 from rfl,O1];have g2:biI .add (I i) (.d (.int .i64 1))=some (I ((i+1:Nat):Int)):=wE aa
  show bnd _ _
  rw[g2];refine⟨Kl af hu ?_ b1 o2 b3 (fO _ _ _ _ rfl) b5 b6,?_⟩
  .simp only[dT,I8 (h:=h) (clr:=[h.length+3]) (i:=2) af,I8 (h:=h) (clr:=[h.length+3]) (i:=4) af,Zg];rfl
  grind[adj]
def oC(a:Ad)(n:Nat):LdQ:=(List.range n).map fun k=>szL a.w.2 (mX a k)
theorem aaG(a:Ad)(n:Nat):oC a (n+1)=oC a n++[szL a.w.2 (mX a n)]:=by simp[oC,Y3]
def sC(a:Ad)(n:Nat):LdQ:=(List.range n).map fun k=>ia a.w.2 (ko a k)
theorem aad(a:Ad)(n:Nat):sC a (n+1)=sC a n++[ia a.w.2 (ko a n)]:=by simp[sC,Y3]
def grB(h:Hp)(a:Ad)(i j:Nat):Nat×Bk:=(1,.vars [lst di a.p,(wgA h 5).v i (oC a i),(wgA h 6).v j (sC a j)])
def wgK(h:Hp)(a:Ad)(n:Nat)(s2 s3 s4:Nat×Bk):Hp:=wgH h a (grB h a n n) s2 s3 s4 ((wgA h 5).b n (oC a n)) ((wgA h 6).b n (sC a n))
theorem Qo(h5:∀t∈clr,t≠h.length+5)(h6:∀t∈clr,t≠h.length+6):offB clr (grB h a i j).2=true:=by grind[kH,lst,grB,offB,dT,I8]
theorem adl(s2 s3 s4 s5 s6:Nat×Bk)(i j:Nat):ld1 (wgH h a (grB h a i j) s2 s3 s4 s5 s6) (.ptr (h.length+1) 1 1 3)=some ((wgA h 5).v i (oC a i)):=by unfold wgH;rw[DF];rfl
theorem adk(s2 s3 s4 s5 s6:Nat×Bk)(i j:Nat):ld1 (wgH h a (grB h a i j) s2 s3 s4 s5 s6) (.ptr (h.length+1) 1 2 3)=some ((wgA h 6).v j (sC a j)):=by unfold wgH;rw[DF];rfl
theorem Iw(s2 s3 s4 s5 s6:Nat×Bk)(i j:Nat):ownB (wgH h a (grB h a i j) s2 s3 s4 s5 s6) (h.length+1) 1 3=true:=by unfold ownB wgH;rw[qQ];rfl
theorem afd(s2 s3 s4 s5 s6:Nat×Bk)(i j:Nat):smB (wgH h a (grB h a i j) s2 s3 s4 s5 s6) (.ptr (h.length+1) 1 0 3) (.ptr (h.length+1) 1 1 3)=true:=by simp[smB,Iw]
theorem adi(s2 s3 s4 s5 s6:Nat×Bk)(i j:Nat):smB (wgH h a (grB h a i j) s2 s3 s4 s5 s6) (.ptr (h.length+1) 1 0 3) (.ptr (h.length+1) 1 2 3)=true:=by simp[smB,Iw]
theorem adm(s2 s3 s4 s6:Nat×Bk)(i j:Nat):apt (wgH h a (grB h a i j) s2 s3 s4 ((wgA h 5).b i (oC a i)) s6) ((wgA h 5).v i (oC a i)) (.ptr (h.length+1) 1 0 3)=true:=by
 cases i with
 |zero=>exact Iw ..
 | succ i=>
  have hd:I5 (wgH h a (grB h a (i+1) j) s2 s3 s4 ((wgA h 5).b (i+1) (oC a (i+1))) s6) (h.length+5) 1 (oC a (i+1)).length=true:=by
   unfold I5 wgH;rw[qQ]
   show Nat.beq _ _=true
   exact X7 _
  show((!Nat.beq (h.length+5) (h.length+1))&&I5 _ (h.length+5) 1 (oC a (i+1)).length&&ownB _ (h.length+1) 1 3)=true
  grind[Iw,beq_lit]
theorem adh(s2 s3 s4 s5 s6:Nat×Bk)(i j:Nat):st (wgH h a (grB h a i j) s2 s3 s4 s5 s6) 1 (.ptr (h.length+1) 1 1 3) ((wgA h 5).v (i+1) (oC a (i+1)))=some (wgH h a (grB h a (i+1) j) s2 s3 s4 s5 s6):=by
 have hg:aw (wgH h a (grB h a i j) s2 s3 s4 s5 s6) (h.length+1) 1=(grB h a i j).2:=by unfold wgH;rw[qQ];rfl
 show sto _ (h.length+1) 1 1 3 [_]=_
 unfold sto;rw[hg]
 show some (bS _ _ _ _)=_
 unfold bS wgH;rw[wR];rfl
theorem adg(s2 s3 s4 s5 s6:Nat×Bk)(i j:Nat):st (wgH h a (grB h a i j) s2 s3 s4 s5 s6) 1 (.ptr (h.length+1) 1 2 3) ((wgA h 6).v (j+1) (sC a (j+1)))=some (wgH h a (grB h a i (j+1)) s2 s3 s4 s5 s6):=by
 have hg:aw (wgH h a (grB h a i j) s2 s3 s4 s5 s6) (h.length+1) 1=(grB h a i j).2:=by unfold wgH;rw[qQ];rfl
 show sto _ (h.length+1) 1 2 3 [_]=_
 unfold sto;rw[hg]
 show some (bS _ _ _ _)=_
 unfold bS wgH;rw[wR];rfl
theorem ab7(G:cI a)(hu:(h.all fun x=>bW h.length x.2)=true)(K:KL)(hK:K (.exit 0) [] (wgK h a a.cd.length nnQ nnQ nnQ)) :
  ∀(m k:Nat),k+m=a.cd.length ->
  lp (kM (CX Y) h.length (.ptr h.length 1 0 6) (mat (mb a)) (.ptr (h.length+1) 1 0 3) (lst aA a.cd) (I a.cd.length)) [h.length+2,h.length+3,h.length+4] (wgK h a 0 nnQ nnQ nnQ) [I k]
   (wgK h a k nnQ nnQ nnQ) K
 | 0,k,hk=>by
  have ek:a.cd.length=k:=aa;rw[ek]at hK ⊢;refine aj ?_;simp[kM];exact hK
 | m+1,k,hk=>by
  have h5:=G.five;have hcl:=G.cl;have hkc:k<a.cd.length:=aa;obtain⟨n1,n2⟩:=G.cn _ (aQ (d:=[]) hkc);have ih:=ab7 G hu K hK m (k+1) aa;have i1:∀H:Hp,ixV H 1 (lst aA a.cd) (I k)=some (.dptr (a.cd.map aA) k):=fun H=>aJ aA _ H rfl hkc
  have i2:∀H:Hp,ld1 H (.dptr (a.cd.map aA) k)=some (mat (nth [] a.cd k)):=fun H=>aC aA [] a.cd H hkc
  have lm:bj (mat (nth [] a.cd k))=some (I (nth [] a.cd k).length):=rfl;have g:(k:Int)<a.cd.length:=aa;have l1:=fun s5 s6 b5 b6 K2 hK2=>ab6 G hkc hu (s1:=grB h a k k) (s5:=s5) (s6:=s6) (Qo af af) b5 b6 K2 hK2 _ 0 (Zp _)
  have oc1:(owC a k (nth [] a.cd k).length).length=(nth [] a.cd k).length*1:=by simp[owC]
  have sc1:(skC a k (nth [] a.cd k).length).length=(nth [] a.cd k).length*1:=by simp[skC]
  have oc2:(oC a k).length=k*1:=by simp[oC]
  have sc2:(sC a k).length=k*1:=by simp[sC]
  refine aj ?_;simp[kM,g,i1,i2,lm];refine lo (l1 _ _ (fO _ _ _ _ rfl) (fO _ _ _ _ rfl) _ fun s3 b3=>?_);obtain⟨s5,e5⟩:∃s,s=(wgA h 5).b k (oC a k):=⟨_,rfl⟩;obtain⟨s6,e6⟩:∃s,s=(wgA h 6).b k (sC a k):=⟨_,rfl⟩;obtain⟨s4,e4⟩:∃s,s=(wgA h 4).b (nth [] a.cd k).length (skC a k (nth [] a.cd k).length):=⟨_,rfl⟩
  obtain⟨s2,e2⟩:∃s,s=(wgA h 2).b (nth [] a.cd k).length (owC a k (nth [] a.cd k).length):=⟨_,rfl⟩
  have d1:∀s5 s6,∃s2':Nat×Bk,offB [h.length+2,h.length+3,h.length+4] s2'.2=true∧toD (wgH h a (grB h a k k) s2 s3 s4 s5 s6) ((wgA h 2).v (nth [] a.cd k).length (owC a k (nth [] a.cd k).length))=some (szL a.w.2 (mX a k),wgH h a (grB h a k k) s2' s3 s4 s5 s6):=fun s5 s6=>by
   obtain⟨fr,td⟩:=oA (wgA h 2) (h:=wgH h a (grB h a k k) s2 s3 s4 s5 s6) (L:=(nth [] a.cd k).length) (c:=owC a k (nth [] a.cd k).length) (by rw[e2];exact tT ..) oc1;rw[aau,if_neg aa,show(wgA h 2).s=h.length+2 from rfl,O2]at td;exact⟨_,rfl,td⟩
  have d2:∀s2 s5 s6,∃s4':Nat×Bk,offB [h.length+2,h.length+3,h.length+4] s4'.2=true∧toD (wgH h a (grB h a k k) s2 s3 s4 s5 s6) ((wgA h 4).v (nth [] a.cd k).length (skC a k (nth [] a.cd k).length))=some (ia a.w.2 (ko a k),wgH h a (grB h a k k) s2 s3 s4' s5 s6):=fun s2 s5 s6=>by
   obtain⟨fr,td⟩:=oA (wgA h 4) (h:=wgH h a (grB h a k k) s2 s3 s4 s5 s6) (L:=(nth [] a.cd k).length) (c:=skC a k (nth [] a.cd k).length) (by rw[e4];exact tT ..) sc1;rw[Tq,if_neg aa,show(wgA h 4).s=h.length+4 from rfl,O1]at td;exact⟨_,rfl,td⟩
  obtain⟨s2',o2,t2⟩:=d1 s5 s6;have li2:=yZ t2 (pU ..);rw[<-e5,<-e6,<-e4,<-e2];simp;refine KN (afd ..) ?_;have wl1:=fun s2 s5 s6=>adl (a:=a) (h:=h) s2 s3 s4 s5 s6 k k
  have wl2:=fun s2 s5 s6=>adk (a:=a) (h:=h) s2 s3 s4 s5 s6 k k
  have xl1:=fun s2 s5 s6=>(mu _ _ _ _ _).symm.trans (wl1 s2 s5 s6)
  have xl2:=fun s2 s5 s6=>(mu _ _ _ _ _).symm.trans (wl2 s2 s5 s6)
  simp[xl1,wl1,li2];refine Hd (by grind[adm]) ?_;have ap5:=fun(q:kkQ)(u:PU q) hq=>hO (wgA h 5) (L:=k) (k:=1) (by_:=24) (cells:=oC a k) (cs:=[szL a.w.2 (mX a k)]) (h:=wgH h a (grB h a k k) s2' s3 s4 s5 s6) (y:=.d (.sl 1 [szL a.w.2 (mX a k)])) (q:=q) (u:=u) aa (by rw[e5];exact tT ..) oc2 rfl rfl (fun t e=>by cases e) aa (by show 0<1;decide) hq
  rw[<-aaG,show(wgA h 5).s=h.length+5 from rfl,O0]at ap5;refine ap5 _ .mk ?_;obtain⟨s4',o4,t4⟩:=d2 s2' ((wgA h 5).b (k+1) (oC a (k+1))) s6;have li4:=yZ t4 (pU ..);obtain⟨s5',e5'⟩:∃s,s=(wgA h 5).b (k+1) (oC a (k+1)):=⟨_,rfl⟩;obtain⟨v5',ev5⟩:∃v,v=(wgA h 5).v (k+1) (oC a (k+1)):=⟨_,rfl⟩;rw[<-e5']at li4 ⊢;rw[<-ev5];simp;refine KN (adi ..) ?_;simp[xl2,wl2,li4]
  have ap6:=fun(q:kkQ)(u:PU q) hq=>hO (wgA h 6) (L:=k) (k:=1) (by_:=24) (cells:=sC a k) (cs:=[ia a.w.2 (ko a k)]) (h:=wgH h a (grB h a k k) s2' s3 s4' s5' s6) (y:=.d (.sl 1 [ia a.w.2 (ko a k)])) (q:=q) (u:=u) aa (by rw[e6];exact tT ..) sc2 rfl rfl (fun t e=>by cases e) aa (by show 0<1;decide) hq
  rw[<-aad,show(wgA h 6).s=h.length+6 from rfl,OZ]at ap6;refine ap6 _ .mk ?_;obtain⟨s6',e6'⟩:∃s,s=(wgA h 6).b (k+1) (sC a (k+1)):=⟨_,rfl⟩;obtain⟨v6',ev6⟩:∃v,v=(wgA h 6).v (k+1) (sC a (k+1)):=⟨_,rfl⟩;rw[<-e6',<-ev6];have w1:st (wgH h a (grB h a k k) s2' s3 s4' s5' s6') 1 (.ptr (h.length+1) 1 1 3) v5'=some (wgH h a (grB h a (k+1) k) s2' s3 s4' s5' s6'):=by rw[ev5];exact adh ..
  have w2:st (wgH h a (grB h a (k+1) k) s2' s3 s4' s5' s6') 1 (.ptr (h.length+1) 1 2 3) v6'=some (wgH h a (grB h a (k+1) (k+1)) s2' s3 s4' s5' s6'):=by rw[ev6];exact adg ..
  simp(disch:=try exact ag)[w1,w2];have o5:offB [h.length+2,h.length+3,h.length+4] s5'.2=true:=by rw[e5'];exact fO _ _ _ _ rfl
  have o6:offB [h.length+2,h.length+3,h.length+4] s6'.2=true:=by rw[e6'];exact fO _ _ _ _ rfl
  refine⟨Kl af hu rfl (Qo af af) o2 b3 o4 o5 o6,?_⟩;unfold wgK at ih ⊢;rw[SH,e5',e6'];exact ih
theorem SJ(G:cI a)(hu:(h.all fun x=>bW h.length x.2)=true):CI Y F.gW [.agg (adC a)] h (.tup [.tup [.new 1 (gD a.p (ia a.w.2 (kG a)) (lK a.w.2 (gO a))) true 0 0],I 0]) h:=by
 refine zm ?_;have rt:=G.roots;have h5:=G.five;have hcl:=G.cl;have hlen:=G.wk.len;have hfew:=G.wk.few;obtain⟨n,hn⟩:∃n,a.cd.length=n+1:=⟨a.cd.length-1,aa⟩;have lc:bj (lst aA a.cd)=some (I a.cd.length):=rfl
 have bx:∀(k:kkQ)(u:PU k),rh (cQ h.length (.agg (adC a)) (h++[nnQ,nnQ,nnQ,nnQ,nnQ,nnQ,nnQ])) k u=k (.ptr h.length 1 0 6) (wgH h a nnQ nnQ nnQ nnQ nnQ nnQ):=fun k u=>by
  refine xy (a:=a) h.length _ _ ?_ (e:=0) (b:=.none) af k u;have:=Jw h [(0,Bk.none),nnQ,nnQ,nnQ,nnQ,nnQ,nnQ] 0;rw[Nat.add_zero]at this;rw[this];have s:=wR h [(0,Bk.none),nnQ,nnQ,nnQ,nnQ,nnQ,nnQ] 0 (1,.vars (adC a));trivial
 have l3:ldA (wgH h a nnQ nnQ nnQ nnQ nnQ nnQ) 3 (.ptr h.length 1 0 6)=some (.agg (wkC a.p a.ch a.lk)):=by
  have:=Qk h [adB a,(0,Bk.none),nnQ,nnQ,nnQ,nnQ,nnQ] 3 0 1 0 6;rw[Nat.add_zero]at this;unfold wgH;rw[this];rfl
 have lp0:ld1 (wgH h a nnQ nnQ nnQ nnQ nnQ nnQ) (.ptr h.length 1 0 6)=some (lst di a.p):=by
  have:=DF h [adB a,(0,Bk.none),nnQ,nnQ,nnQ,nnQ,nnQ] 0 1 0 6;rw[Nat.add_zero]at this;unfold wgH;rw[this];rfl
 have g1:(wgH h a nnQ nnQ nnQ nnQ nnQ nnQ)[h.length+1]?=some nnQ:=tT ..
 have eS:(wgH h a nnQ nnQ nnQ nnQ nnQ nnQ).set (h.length+1) (1,.vars [lst di a.p,.d nPQ,.d nPQ])=wgK h a 0 nnQ nnQ nnQ:=by
  unfold wgK wgH;rw[wR];rfl
 have c3:=SI h a (grB h a 0 0) nnQ nnQ nnQ ((wgA h 5).b 0 (oC a 0)) ((wgA h 6).b 0 (sC a 0));have c3x:ld1 (wgK h a 0 nnQ nnQ nnQ) (.ptr h.length 1 3 6)=some (lst aA a.cd):=c3;have oc1:∀n,(oC a n).length=n*1:=fun n=>by simp[oC]
 have sc1:∀n,(sC a n).length=n*1:=fun n=>by simp[sC]
 have main:=ab7 (h:=h) G hu (exK [(Exit.exit 0,fun l16 h'=>qN h.length (V.tup [V.tup [V.new 1 (gD a.p (ia a.w.snd (kG a)) (lK a.w.snd (gO a))) true 0 0],I 0]) h (V.tup [.ptr (h.length+1) 1 0 3,I 0]) h'),
  (Exit.ret,fun l16 h'=>qN h.length (V.tup [V.tup [V.new 1 (gD a.p (ia a.w.snd (kG a)) (lK a.w.snd (gO a))) true 0 0],I 0]) h (V.tup [ge l16 0,ge l16 1]) h')]) (by
  have tk:∀s1 s2 s3 s4 s5 s6,(wgH h a s1 s2 s3 s4 s5 s6).take h.length=h:=fun _ _ _ _ _ _=>by simp[wgH]
  obtain⟨fr5,t5⟩:=oA (wgA h 5) (h:=wgK h a a.cd.length nnQ nnQ nnQ) (L:=a.cd.length) (c:=oC a a.cd.length) (tT ..) (oc1 _);rw[if_neg aa]at t5;unfold wgK at t5;rw[show(wgA h 5).s=h.length+5 from rfl,O0]at t5;obtain⟨s5,hs5⟩:∃s:Nat×Bk,s=((wgA h 5).e+1,.data (wgA h 5).n (oC a a.cd.length) false fr5):=⟨_,rfl⟩;rw[<-hs5]at t5
  obtain⟨fr6,t6⟩:=oA (wgA h 6) (h:=wgH h a (grB h a a.cd.length a.cd.length) nnQ nnQ nnQ s5 ((wgA h 6).b a.cd.length (sC a a.cd.length))) (L:=a.cd.length) (c:=sC a a.cd.length) (tT ..) (sc1 _);rw[if_neg aa,show(wgA h 6).s=h.length+6 from rfl,OZ]at t6;obtain⟨s6,hs6⟩:∃s:Nat×Bk,s=((wgA h 6).e+1,.data (wgA h 6).n (sC a a.cd.length) false fr6):=⟨_,rfl⟩
  rw[<-hs6]at t6;have tp:∀H,toD H (lst di a.p)=some (row a.p,H):=fun _=>rfl
  have eo:D.sl a.cd.length (oC a a.cd.length)=ia a.w.2 (kG a):=by
   simp only[ia,kG,List.length_map,Y0,Yy];rfl
  have es:D.sl a.cd.length (sC a a.cd.length)=lK a.w.2 (gO a):=by
   simp only[lK,gO,List.length_map,Y0,Yy];rfl
  refine⟨(tk ..).symm,hu,.inr (.inr (.inr (.inr (.inr ⟨h.length+1,1,[lst di a.p,(wgA h 5).v a.cd.length (oC a a.cd.length),(wgA h 6).v a.cd.length (sC a a.cd.length)],[row a.p,ia a.w.2 (kG a),lK a.w.2 (gO a)],wgH h a (grB h a a.cd.length a.cd.length) nnQ nnQ nnQ s5 s6,aa,?_,?_,?_,?_,?_⟩))))⟩
  .unfold wgK wgH;rw[qQ];rfl
  .simp_all[wgK,iH]
  .unfold wgH;rw[qQ];rfl
  .grind[wgK]
  .exact .inr ⟨_,rfl,rfl⟩)
 simp[gW,bx,l3];refine cd rt ?_;simp[lp0,g1,eS,c3x,lc];exact main _ 0 (Zp _)
theorem Ix(v x y z:LiQ):sN v [x,y,z]=sN v [z,y,x]:=by simp[sN,G1]
def yk(j:Nat)(l:List LLQ):LLQ:=l.map fun ss=>nth [] ss j
theorem Nm{p:LiQ}{b Bd:Nat}(G:Nf p b Bd)(O:D){k j:Nat}{steps:List (List LLQ)}{prev:LLQ}{o:LiQ}(hk:k<steps.length)(hkN:k<1000000)(hj:∀ss∈nth [] steps k,j<ss.length)(ho:o.length=p.length∧bdN Bd o)
  (hr:∀ss∈nth [] steps k,okR p Bd ss) (hbe:okR p Bd prev) (hl:prev.length<=(nth [] steps k).length) (hN:prev.length<1000000) (h:Hp) (h0:Hp) (hh:h0.length=h.length) (K:KL) :
  ∀(q a:LLQ)(sq sa:List LLQ)(m:Option LiQ),a++q=prev->sa++sq=nth [] steps k->sa.length=a.length->(∀x,m=some x->x.length=p.length∧bdN (Bd+Bd+Bd) x) ->
  (∀v,v=opV b (CR p m o (List.replicate p.length 0) (yk j sq) q)->K (.exit 4) [v] h) ->
  lp (fq (CX Y) (.dptr (gD p O (lK b steps)) 0) (I (k+1:Nat)) (I j) (szV (szI b o)) (.d (szL b prev)) (I prev.length)) [] h0 [opV b m,I a.length] h K
 | [],a,sq,sa,m,ha,hs,hsa,hm,hK=>by
  have e:a.length=prev.length:=by rw[<-ha];simp
  refine aj ?_;simp[fq,e];exact hK _ (by cases sq<;>rfl)
 | be::q,a,[],sa,m,ha,hs,hsa,hm,hK=>by
  have e1:prev.length=a.length+(q.length+1):=by rw[<-ha];simp
  have e2:(nth [] steps k).length=sa.length:=by rw[<-hs];simp
  omega
 | be::q,a,ss::sq,sa,m,ha,hs,hsa,hm,hK=>by
  have e1:prev.length=a.length+(q.length+1):=by rw[<-ha];simp
  have e2:(nth [] steps k).length=sa.length+(sq.length+1):=by rw[<-hs];simp
  obtain⟨hin,hp0⟩:=eh G.hp;have mss:ss∈nth [] steps k:=by rw[<-hs];simp
  have jl:=hj ss mss;have rbe:=hbe be (by grind);have rst:=hr ss mss (nth [] ss j) (aQ (d:=[]) jl);obtain⟨s1,s2⟩:=Pj G rbe rst ho;have hB:=G.B1
  have ga:=Qs G.hp O (lK b steps) G.b0 G.b1 (B:=Bd) aa (m:=[be,nth [] ss j,o]) (fun d hd=>by
   grind) af
  rw[Ix]at ga s1 s2;obtain⟨c,hc⟩:=nmQ (sN (List.replicate p.length 0) [o,nth [] ss j,be])
  have hK':∀v,v=opV b (CR p (match m with
   |none=>some c
   |some m=>some (if wI p c<wI p m then c else m)) o (List.replicate p.length 0) (yk j sq) q)->K (.exit 4) [v] h:=by
   intro v hv;refine hK v ?_;rw[hv,hc];rfl
  rw[<-hc]at ga s1 s2;have i1:∀H:Hp,ixV H 1 (.d (szL b prev)) (I a.length)=some (.dptr (prev.map fun r=>szD (szI b r)) a.length):=fun H=>aJ (fun r=>szD (szI b r)) prev H rfl aa
  have i2:∀H:Hp,ld1 H (.dptr (prev.map fun r=>szD (szI b r)) a.length)=some (szV (szI b be)):=fun H=>by rw[aC (fun r=>szD (szI b r)) [] prev H aa,<-ha,bM];rfl
  have f2:∀H:Hp,ld1 H (.dptr (gD p O (lK b steps)) 2)=some (.d (lK b steps)):=fun _=>rfl
  have gk:((k+1:Nat):Int)-1=(k:Int):=aa;have j1:∀H:Hp,ixV H 1 (.d (lK b steps)) (I k)=some (.dptr (steps.map (ia b)) k):=fun H=>aJ (ia b) steps H rfl hk
  have j2:∀H:Hp,ld1 H (.dptr (steps.map (ia b)) k)=some (.d (ia b (nth [] steps k))):=fun H=>aC (ia b) [] steps H hk
  have j3:∀H:Hp,ixV H 1 (.d (ia b (nth [] steps k))) (I a.length)=some (.dptr ((nth [] steps k).map (szL b)) a.length):=fun H=>aJ (szL b) _ H rfl aa
  have j4:∀H:Hp,ld1 H (.dptr ((nth [] steps k).map (szL b)) a.length)=some (.d (szL b ss)):=fun H=>by rw[aC (szL b) [] _ H aa,<-hs,<-hsa,bM]
  have j5:∀H:Hp,ixV H 1 (.d (szL b ss)) (I j)=some (.dptr (ss.map fun r=>szD (szI b r)) j):=fun H=>aJ (fun r=>szD (szI b r)) _ H rfl aa
  have j6:∀H:Hp,ld1 H (.dptr (ss.map fun r=>szD (szI b r)) j)=some (szV (szI b (nth [] ss j))):=fun H=>by rw[aC (fun r=>szD (szI b r)) [] _ H aa];rfl
  have li:∀H,cO 3 [nPQ] [(0,szV (szI b be)),(1,szV (szI b (nth [] ss j))),(2,szV (szI b o))] H=some ([szD (szI b be),szD (szI b (nth [] ss j)),szD (szI b o)],H):=fun H=>by
   rfl
  have g:(a.length:Int)<prev.length:=aa;have hre:au [] 0 h0 h=h:=aX 0 h0 _ hh.symm;have e3:((a++[be]).length:Int)=(a.length:Int)+1:=af;refine aj ?_;simp[fq,g];refine aT ?_;simp(disch:=try exact ag)[i1,i2,f2,gk,j1,j2,j3,j4,j5,j6,li]
  refine cd (args:=[.dptr (gD p O (lK b steps)) 0,lst szD ([be,nth [] ss j,o].map (szI b))]) ga ?_ (by rfl);simp;cases m with
  | none=>
   have ih:=Nm G O hk hkN hj ho hr hbe hl hN h h0 hh K q (a++[be]) sq (sa++[ss]) (some c) (by grind) (by grind) (by grind) (fun x hx=>by grind) hK';rw[e3]at ih;have nn:∀(k:V->Prop)(u:PU k),rn (rj h .eql (opV b none) (.d nPQ)) k u=k (.d (.bool true)):=fun _ _=>rfl
   simp[nn];refine aT ?_;simp(disch:=try exact ag)[hre];exact ih
  | some x=>
   obtain⟨x1,x2⟩:=hm x rfl
   have ih:=Nm G O hk hkN hj ho hr hbe hl hN h h0 hh K q (a++[be]) sq (sa++[ss]) (some (if wI p c<wI p x then c else x)) (by grind) (by grind) (by grind) (fun y hy=>by
    grind) hK'
   rw[e3]at ih;have le:=Mc G.hp O (lK b steps) G.b0 G.b1 s1 x1 s2 x2 aa aa
   have nn:∀(k:V->Prop)(u:PU k),rn (rj h .eql (opV b (some x)) (.d nPQ)) k u=k (.d (.bool false)):=fun k u=>by
    have:((szI b x).map tx).length=(p.length-1)+1:=by rw[List.length_map,ci,x1];omega
    show rj h .eql (.d (.sl ((szI b x).map tx).length _)) _ k=_
    rw[this];rfl
   simp[nn];refine cd (args:=[.dptr (gD p O (lK b steps)) 0,szV (szI b c),szV (szI b x)]) le ?_ (by rfl);by_cases g2:wI p c<wI p x
   .rw[if_pos g2]at ih;simp[g2];refine aT ?_;simp(disch:=try exact ag)[hre];exact ih
   .rw[if_neg g2]at ih;simp[g2];refine aT ?_;simp(disch:=try exact ag)[hre];exact ih
def jQ(p:LiQ)(prev:LLQ)(St:List LLQ):Nat->LLQ->LLQ
 |_,[]=>[]
 |j,o::os=>((CR p none o (List.replicate p.length 0) (yk j St) prev).getD [])::jQ p prev St (j+1) os
theorem w8(p:LiQ)(prev:LLQ)(St:List LLQ):∀(j:Nat)(l:LLQ),(jQ p prev St j l).length=l.length
 |_,[]=>rfl
 |j,o::os=>by simp only[jQ,List.length_cons,w8 p prev St (j+1) os]
def vn(p:LiQ):LLQ->List LLQ->List (List LLQ)->List LLQ
 |prev,o::os,ss::sss=>jQ p prev ss 0 o::vn p (jQ p prev ss 0 o) os sss
 |_,_,_=>[]
def ptV(R:LdQ):V:=if R.length=1 then .ref 0 1 0 1 1 1 else .ref 2 1 0 R.length R.length R.length
def ptE(R:LdQ):Nat×Bk:=if R.length=1 then nnQ else(1,.data 1 R false false)
def ptH(c0:D)(s1:Nat×Bk)(R:LdQ):Hp:=[(1,.data 1 [c0] true false),s1,ptE R]
theorem PD(hz:R0=[]->r=c0):∃w,ixV (ptH c0 s1 (R0++[r])) 1 (ptV (R0++[r])) (I R0.length)=some w∧ld1 (ptH c0 s1 (R0++[r])) w=some (.d r):=by
 by_cases h:R0=[]
 .subst h;rw[hz rfl];exact⟨.ptr 0 1 0 1,rfl,rfl⟩
 .have hp:0<R0.length:=Xj.2 h;have h1:¬(R0++[r]).length=1:=by simp;exact h
  refine⟨.ptr 2 1 R0.length (R0++[r]).length,?_,?_⟩
  .grind[ptV,ptH,ptE,ixV,aw]
  grind[ptH,ptE,ld1,aw]
theorem R2(h0:0<R.length)(hz:R.length=1->R=[c0])(hb:R.length<1000000)(q:kkQ):
  apV false 2 1 24 (ptV R) (.d (.sl 1 [r])) (ptH c0 s1 R) q=q (ptV (R++[r])) (ptH c0 s1 (R++[r])):=by
 by_cases h:R.length=1
 .rw[hz h];rfl
 .have h2:¬(R++[r]).length=1:=by simp;intro e;rw[e]at h0;simp at h0
  have hg:aw (ptH c0 s1 R) 2 1=.data 1 R false false:=by simp[aw,ptH,ptE,h]
  show apC false 2 1 24 (ptV R) 1 [r] (ptH c0 s1 R) q=_
  simp only[ptV,if_neg h,if_neg h2];unfold apC;rw[if_neg ae];simp only[hg];rw[if_pos ⟨trivial,af,Z7 _,af,rfl⟩,if_neg aa,if_pos aa];simp only[Ze,if_false,V7];rw[if_pos ⟨af,af⟩];have hne:¬R=[]:=by rintro rfl;simp at h0
  grind[ptH,ptE,bS]
theorem Pe(h0:0<R.length)(hz:R.length=1->R=[c0]):∃h',bJ (ptH c0 s1 R) (ptV R)=some (.d (.sl R.length R),h'):=by
 by_cases h:R.length=1
 .rw[hz h];exact⟨_,rfl⟩
 .have hg:aw (ptH c0 s1 R) 2 1=.data 1 R false false:=by simp[aw,ptH,ptE,h]
  simp_all[ptV,bJ,toD]
def xt:Acc:=⟨1,0,1,.none⟩
theorem P9{p:LiQ}{b Bd:Nat}(G:Nf p b Bd)(O:D){k:Nat}{steps:List (List LLQ)}{prev own:LLQ}(hk:k<steps.length)(hkN:k<1000000)(hSl:∀ss∈nth [] steps k,ss.length=own.length)(hoN:own.length<1000000)(ho:okR p Bd own)
  (hr:∀ss∈nth [] steps k,okR p Bd ss) (hbe:okR p Bd prev) (hp0:0<prev.length) (hl:prev.length=(nth [] steps k).length) (hN:prev.length<1000000) {c0:D} {R0:LdQ} (hR0:R0.length=k) (hz:R0=[]->szL b prev=c0) (h0:Hp) (hh:h0.length=3) (K:KL) :
  ∀(q a:LLQ)(r:LLQ),a++q=own->r.length=a.length ->
  K (.exit 2) [xt.v own.length ((r++jQ p prev (nth [] steps k) a.length q).map (szE b))] (ptH c0 (xt.b own.length ((r++jQ p prev (nth [] steps k) a.length q).map (szE b))) (R0++[szL b prev])) ->
  lp (gQ (CX Y) (.dptr (gD p O (lK b steps)) 0) (ptV (R0++[szL b prev])) (I (k+1:Nat)) (.d (szL b own)) (I own.length)) [] h0 [xt.v a.length (r.map (szE b)),I a.length] (ptH c0 (xt.b a.length (r.map (szE b))) (R0++[szL b prev])) K
 | [],a,r,ha,hrl,hK=>by
  have e:a.length=own.length:=by rw[<-ha];simp
  simp only[jQ,Y8]at hK;refine aj ?_;rw[e];simp[gQ];exact hK
 | o::q,a,r,ha,hrl,hK=>by
  have e1:own.length=a.length+(q.length+1):=by rw[<-ha];simp
  have ro:=ho o (by grind);have hB:=G.B1
  have okc:okR p Bd (yk a.length (nth [] steps k)):=fun x hx=>by
   obtain⟨ss,hss,rfl⟩:=Zc.1 hx;exact hr ss hss _ (aQ (d:=[]) (by grind))
  obtain⟨x,m1,m2,m3⟩:=Jj G ro (yk a.length (nth [] steps k)) prev none okc hbe (fun _ h=>by cases h) (.inr ⟨by grind[yk],hp0⟩);have er:jQ p prev (nth [] steps k) a.length (o::q)=x::jQ p prev (nth [] steps k) (a.length+1) q:=by simp only[jQ,m1];rfl
  rw[er]at hK;have e2:(a++[o]).length=a.length+1:=af;have e3:((a++[o]).length:Int)=(a.length:Int)+1:=af;have ih:=P9 G O hk hkN hSl hoN ho hr hbe hp0 hl hN hR0 hz h0 hh K q (a++[o]) (r++[x]) (by grind) (by grind) (by grind)
  have hl2:=fun H hH K2=>Nm G O (j:=a.length) (prev:=prev) (o:=o) hk hkN (fun ss hss=>by grind) ro hr hbe aa hN H H hH K2 prev [] (nth [] steps k) [] none rfl rfl rfl (fun _ h=>by cases h)
  have i1:∀H:Hp,ixV H 1 (.d (szL b own)) (I a.length)=some (.dptr (own.map fun r=>szD (szI b r)) a.length):=fun H=>aJ (fun r=>szD (szI b r)) own H rfl aa
  have i2:∀H:Hp,ld1 H (.dptr (own.map fun r=>szD (szI b r)) a.length)=some (szV (szI b o)):=fun H=>by rw[aC (fun r=>szD (szI b r)) [] own H aa,<-ha,bM];rfl
  have gk:((k+1:Nat):Int)-1=(k:Int):=aa;obtain⟨w,w1,w2⟩:=PD (s1:=xt.b a.length (r.map (szE b))) hz;rw[hR0]at w1;have lm:bj (.d (szL b prev))=some (I prev.length):=rfl;have g:(a.length:Int)<own.length:=aa
  have li:∀H,cO 1 [nPQ] [(0,opV b (some x))] H=some ([szE b x],H):=fun H=>by
   rfl
  have hre:∀s,au [] 0 h0 (ptH c0 s (R0++[szL b prev]))=ptH c0 s (R0++[szL b prev]):=fun s=>aX 0 h0 _ (by rw[hh];rfl)
  refine aj ?_;simp(disch:=try exact ag)[gQ,g,i1,i2,gk,w1,w2,lm];refine lo (hl2 _ rfl _ fun v hv=>?_);rw[hv,m1];simp[li];refine hO xt (L:=a.length) (k:=1) (cells:=r.map (szE b)) (cs:=[szE b x]) aa rfl (by grind[xt]) rfl rfl (fun t e=>by cases e) aa ae ?_
  have eS:(ptH c0 (xt.b a.length (r.map (szE b))) (R0++[szL b prev])).set xt.s (xt.b (a.length+1) (r.map (szE b)++[szE b x]))=ptH c0 (xt.b (a.length+1) ((r++[x]).map (szE b))) (R0++[szL b prev]):=by
   simp[ptH,xt]
  rw[eS];have g2:biI .add (I a.length) (.d (.int .i64 1))=some (I ((a++[o]).length:Int)):=by rw[e2];exact wE aa
  show bnd _ _
  rw[g2];refine⟨clean_nil _ _,?_⟩;rw[hre];have ev:r.map (szE b)++[szE b x]=(r++[x]).map (szE b):=af
  grind
theorem EP(p:LiQ):∀(os:List LLQ)(prev:LLQ)(sss:List (List LLQ)),os.length<=sss.length->(vn p prev os sss).length=os.length
 |[],prev,sss,_=>by cases sss<;>rfl
 |o::os,prev,[],h=>by simp at h
 |o::os,prev,ss::sss,h=>by simp only[vn,List.length_cons,EP p os _ sss (by grind)]
theorem Qb{p:LiQ}{b Bd:Nat}(G:Nf p b Bd){owns:List LLQ}{steps:List (List LLQ)}(hl:steps.length=owns.length)(hN:owns.length<1000000)(ho:∀o∈owns,0<o.length∧o.length<1000000∧okR p Bd o)
  (hs:∀k,k+1<owns.length->(nth [] steps k).length=(nth [] owns k).length∧∀ss∈nth [] steps k,ss.length=(nth [] owns (k+1)).length∧okR p Bd ss) {c0:D} (h0:Hp) (hh:∃x y,h0=[x,nnQ,y]) (K:KL) :
  ∀(m k:Nat)(R0:LdQ)(prev:LLQ),k+1+m=owns.length->R0.length=k->(R0=[]->szL b prev=c0)->(∀x l,R0=x::l->x=c0)->prev.length=(nth [] owns k).length->okR p Bd prev ->
  (∀r∈vn p prev (owns.drop (k+1)) (steps.drop k),okR p Bd r) ->
  (∀s1,K (.exit 0) [ptV (R0++szL b prev::(vn p prev (owns.drop (k+1)) (steps.drop k)).map (szL b))] (ptH c0 s1 (R0++szL b prev::(vn p prev (owns.drop (k+1)) (steps.drop k)).map (szL b)))) ->
  lp (io (CX Y) (.dptr (gD p (ia b owns) (lK b steps)) 0)) [1] h0 [ptV (R0++[szL b prev]),I (k+1:Nat)] (ptH c0 nnQ (R0++[szL b prev])) K
 | 0,k,R0,prev,hk,hR,hz,hz2,hpl,hpo,hB,hK=>by
  have e:owns.length=k+1:=aa;have f1:∀H:Hp,ld1 H (.dptr (gD p (ia b owns) (lK b steps)) 1)=some (.d (ia b owns)):=fun _=>rfl
  have lO:bj (.d (ia b owns))=some (I owns.length):=rfl;have ed:owns.drop (k+1)=[]:=Xe aa;rw[ed]at hK;have ep:vn p prev [] (steps.drop k)=[]:=by cases steps.drop k<;>rfl
  rw[ep]at hK;refine aj ?_;simp[io,f1,lO,e]
  grind
 | m+1,k,R0,prev,hk,hR,hz,hz2,hpl,hpo,hB,hK=>by
  have hk1:k+1<owns.length:=aa;have hks:k<steps.length:=aa;obtain⟨o1,o2,o3⟩:=ho _ (aQ (d:=[]) hk1);obtain⟨p1,p2,p3⟩:=ho _ (aQ (d:=[]) (show k<owns.length by omega));obtain⟨q1,q2⟩:=hs k hk1;have f1:∀H:Hp,ld1 H (.dptr (gD p (ia b owns) (lK b steps)) 1)=some (.d (ia b owns)):=fun _=>rfl
  have lO:bj (.d (ia b owns))=some (I owns.length):=rfl;have i1:∀H:Hp,ixV H 1 (.d (ia b owns)) (I ((k:Int)+1))=some (.dptr (owns.map (szL b)) (k+1)):=fun H=>aJ (szL b) owns H aa hk1
  have i2:∀H:Hp,ld1 H (.dptr (owns.map (szL b)) (k+1))=some (.d (szL b (nth [] owns (k+1)))):=fun H=>aC (szL b) [] owns H hk1
  have lm:bj (.d (szL b (nth [] owns (k+1))))=some (I (nth [] owns (k+1)).length):=rfl;have eo:owns.drop (k+1)=nth [] owns (k+1)::owns.drop (k+1+1):=by rw[Z0 hk1,aN _ _ _ hk1]
  have es:steps.drop k=nth [] steps k::steps.drop (k+1):=by rw[Z0 hks,aN _ _ _ hks]
  rw[eo,es]at hK hB;simp only[vn]at hK hB;have rl:=w8 p prev (nth [] steps k) 0 (nth [] owns (k+1));have l1:=fun H hH K2=>P9 G (ia b owns) (k:=k) (steps:=steps) (prev:=prev) (own:=nth [] owns (k+1)) hks aa (fun ss h=>(q2 ss h).1) o2 o3 (fun ss h=>(q2 ss h).2) hpo aa aa aa (c0:=c0) (R0:=R0) hR hz H hH K2 (nth [] owns (k+1)) [] [] rfl rfl
  have hrow:=hB _ (List.mem_cons_self ..);generalize jQ p prev (nth [] steps k) 0 (nth [] owns (k+1))=r at *
  have ih:=Qb G hl hN ho hs (c0:=c0) h0 hh K m (k+1) (R0++[szL b prev]) r aa (by grind) (fun e=>by simp at e) (fun x l e=>by
   cases R0 with
   |nil=>grind
   |cons u v=>grind) rl hrow (fun r hr=>hB r (by grind)) (fun s1=>by grind)
  have g:(k:Int)+1<owns.length:=aa;refine aj ?_;simp[io,f1,lO,g,i1,i2,lm];refine lo (l1 _ rfl _ ?_);rw[List.nil_append];have hrl:(r.map (szE b)).length=(nth [] owns (k+1)).length*xt.n:=by simp[xt,rl]
  obtain⟨fr,td⟩:=oA xt (h:=ptH c0 (xt.b (nth [] owns (k+1)).length (r.map (szE b))) (R0++[szL b prev])) (L:=(nth [] owns (k+1)).length) (c:=r.map (szE b)) rfl hrl;rw[if_neg aa]at td;have er:D.sl (nth [] owns (k+1)).length (r.map (szE b))=szL b r:=by unfold szL szE;rw[rl]
  rw[er]at td;have li:=yZ td (pU ..);have eS:∀s s',(ptH c0 s (R0++[szL b prev])).set xt.s s'=ptH c0 s' (R0++[szL b prev]):=fun _ _=>rfl
  rw[eS]at li
  have ap:=R2 (c0:=c0) (r:=szL b r) (s1:=(xt.e+1,.data xt.n (r.map (szE b)) false fr)) (R:=R0++[szL b prev]) af (fun e=>by
   have:R0=[]:=by simpa using e
   grind) (by grind)
  simp[li];unfold rh;rw[ap]
  have g2:biI .add (I ((k:Int)+1)) (.d (.int .i64 1))=some (I ((k+1+1:Nat):Int)):=by
   have:=wE (a:=k+1) aa;simpa using this
  show bnd _ _
  rw[g2];obtain⟨x,y,rfl⟩:=hh;refine⟨?_,?_⟩
  .have o1:∀R,kH [1] (ptV R)=true:=fun R=>by unfold ptV;split<;>rfl
   have o2:∀R,offB [1] (ptE R).2=true:=fun R=>by unfold ptE;split<;>rfl
   simp only[clean,dT,o1,ptH,jm,o2,mZ,Y4,Zg,X1];rfl
  trivial
theorem Ft{o0:LLQ}(c:ZE p b Bd owns steps)(e:owns=o0::os)(hB:∀r∈vn p o0 os steps,okR p Bd r):
  CP Y F.bQ [.dptr (gD p (ia b owns) (lK b steps)) 0] (.tup [.d (ia b (o0::vn p o0 os steps)),I 0]):=by
 refine rS ?_;have hN:=c.hN;have hne:=c.ne;have n0:nth [] owns 0=o0:=by rw[e];rfl
 have f1:∀H:Hp,ld1 H (.dptr (gD p (ia b owns) (lK b steps)) 1)=some (.d (ia b owns)):=fun _=>rfl
 have i1:∀H:Hp,ixV H 1 (.d (ia b owns)) (.d (.int .i64 0))=some (.dptr (owns.map (szL b)) 0):=fun H=>aJ (szL b) owns H rfl hne
 have i2:∀H:Hp,ld1 H (.dptr (owns.map (szL b)) 0)=some (.d (szL b o0)):=fun H=>by rw[aC (szL b) [] owns H hne,n0]
 have li:∀H,cO 1 [nPQ] [(0,.d (szL b o0))] H=some ([szL b o0],H):=fun H=>by
  rfl
 have hlen:=EP p os o0 steps (by grind[ZE.hl])
 have main:=Qb c.g c.hl hN c.ho c.hs (c0:=szL b o0) (ptH (szL b o0) nnQ [szL b o0]) ⟨_,_,rfl⟩ (exK [(Exit.exit 0,fun l7 h=>out (V.tup [.d (ia b (o0::vn p o0 os steps)),I 0]) (V.tup [ge l7 0,I 0]) h),(Exit.ret,fun l7 h=>out (V.tup [.d (ia b (o0::vn p o0 os steps)),I 0]) (V.tup [ge l7 0,ge l7 1]) h)])
  (owns.length-1) 0 [] o0 aa rfl (fun _=>rfl) (fun _ _ h=>by cases h) (by rw[n0]) (c.ho o0 (by grind)).2.2 (by grind) (fun s1=>by
   rw[e]
   show out _ (V.tup [ptV (szL b o0::(vn p o0 os steps).map (szL b)),I 0]) (ptH (szL b o0) s1 (szL b o0::(vn p o0 os steps).map (szL b)))
   obtain ⟨h',hs⟩:=Pe (c0:=szL b o0) (s1:=s1) (R:=szL b o0::(vn p o0 os steps).map (szL b)) af (fun h=>by
    grind)
   simp_all[aG,ia])
 simp[bQ,f1,i1,i2,li];exact main
end Go.Vm
