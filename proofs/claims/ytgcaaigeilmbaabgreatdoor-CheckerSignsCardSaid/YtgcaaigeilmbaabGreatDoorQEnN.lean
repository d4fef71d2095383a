/- Lemmas. -/
import Derived.Test.YtgcaaigeilmbaabGreatDoorQRefRow
set_option linter.unusedVariables false
set_option linter.unusedSimpArgs false
namespace Go.Vm
open Go Go.Am Go.Big
variable{p cols:LiQ}{s:List Q}{h:Hp}{l bs:List Bd}{a x z y t:Int}{d i n k M L kd at_ by_:Nat}{r:Int×Nat}{m cm mp:LLQ}{q:Q}
def mG(M n:Nat):LiQ->List Q->List Bd
 |p::ps,c::cs=>if c.1=0 then mG M n ps cs else(p,(n:Int),ag (qa p M/2^(M-n)))::mG M n ps cs
 |_,_=>[]
theorem HA(M n:Nat):∀{p:LiQ}{s:List Q}(q:LiQ)(t:List Q),p.length=s.length->mG M n (p++q) (s++t)=mG M n p s++mG M n q t
 |[],[],q,t,_=>rfl
 | _::p,c::s,q,t,h=>by
  simp only[List.cons_append,mG];rw[HA M n q t (by simpa using h)];split<;>rfl
theorem BK(M n:Nat):∀(p:LiQ)(s:List Q),(mG M n p s).length<=s.length
 |[],s=>by simp[mG]
 |_::p,[]=>by simp[mG]
 | _::p,c::s=>by
  have:=BK M n p s;simp only[mG];split<;>simp<;>omega
def dcA:Acc:=⟨3,0,3,.none⟩
abbrev dcH(sg n:Int)(L:Nat)(cells:LdQ):Hp:=[(1,.vars [I 0,I 0,.d nPQ]),(1,.vars [I sg,I n,dcA.v L cells]),nnQ,dcA.b L cells]
theorem H7(a:Acc)(L:Nat)(c:LdQ):okV (a.v L c)=true:=by cases L<;>rfl
theorem Kl(L:Nat)(c:LdQ):pL [2] (dcA.v L c)=true:=by cases L<;>rfl
theorem Ko(L:Nat)(c:LdQ):offB [2] (dcA.b L c).2=true:=by cases L<;>rfl
theorem TZ(A:kY){p:LiQ}{s:List Q}{M n:Nat}(hp:∀x∈p,bw x=true)(hs:okS s)(hps:p.length=s.length)(hN:s.length<=8)(hM:jm M)(hn:n<=M)(sg:Int)(K:KL)(h0:Hp)(hh:h0=dcH sg n 0 []) :
  ∀(q:List Q)(r:LiQ)(cs:List Q)(ps:LiQ),cs++q=s->ps++r=p->ps.length=cs.length ->
  (∀bs,bs=mG M n p s->K (.exit 0) [] (dcH sg n bs.length (bs.flatMap cD))) ->
  ∀bs,bs=mG M n ps cs ->
  lp (jh (CX Y) (lst di p) (.dptr (lgR p s M) 0) (I n) (.ptr 1 1 0 3) (szV s) (I s.length)) [2] h0 [I cs.length] (dcH sg n bs.length (bs.flatMap cD)) K
 | [],r,cs,ps,hc,hr,hl,hK=>by
  intro bs hbs;have e:cs=s:=by simpa using hc
  subst e
  have e2:r=[]:=by
   have:=congrArg List.length hr;simp at this;exact Yv.1 aa
  subst e2;have e3:ps=p:=by simpa using hr
  subst e3;refine ai ?_;simp(disch:=try exact ac)[jh];exact hK bs hbs
 | c::q,[],cs,ps,hc,hr,hl,hK=>by
  exfalso;have h1:=congrArg List.length hc;have h2:=congrArg List.length hr;simp at h1 h2;omega
 | c::q,x::r,cs,ps,hc,hr,hl,hK=>by
  intro bs hbs;have hal:s.length=cs.length+(q.length+1):=by rw[<-hc];simp
  have ih:=TZ A hp hs hps hN hM hn sg K h0 hh q r (cs++[c]) (ps++[x]) (by simpa using hc) (by simpa using hr) (by simp[hl]) hK;rw[HA M n [x] [c] hl]at ih
  have e1:∀h:Hp,ixV h 2 (szV s) (I cs.length)=some (.dptr ((s.map tx).flatMap fi) (cs.length*2)):=fun h=>by
   have:=m6 fi fT (s.map tx) h (k:=.i64) (i:=(cs.length:Int)) aa ak;simpa[szV]using this
  have e2:∀h:Hp,ldA h 2 (.dptr ((s.map tx).flatMap fi) (cs.length*2))=some (.agg (qT c)):=fun h=>by
   rw[m5 fi fT ([],[]) (s.map tx) h ak];have:nth ([],[]) (s.map tx) cs.length=tx c:=by rw[<-hc];simp[nth]
   rw[this];rfl
  have i1:∀H:Hp,ixV H 1 (lst di p) (I cs.length)=some (.dptr (p.map di) cs.length):=fun H=>jL di _ H rfl aa
  have i2:∀H:Hp,ld1 H (.dptr (p.map di) cs.length)=some (I x):=fun H=>by rw[lC di 0 p H aa,<-hr,<-hl,mf];rfl
  have hcn:nth (0,1) s cs.length=c:=by rw[<-hc,mf]
  have hpn:nth 0 p cs.length=x:=by rw[<-hr,<-hl,mf]
  have sg':=rR c;have g:(cs.length:Int)<s.length:=aa;have bl:=BK M n ps cs;rw[<-hbs]at bl;have e5:((cs++[c]).length:Int)=(cs.length:Int)+1:=af;rw[e5]at ih;subst hh;refine ai ?_;by_cases hz:c.1=0
  .have ih:=ih bs (by simp[mG,hz,hbs]);have sz:=y9.2 hz;rw[sz]at sg';have of1:=Kl bs.length (bs.flatMap cD);have of2:=Ko bs.length (bs.flatMap cD);simp only[offB]at of2;simp(disch:=try exact ac)[jh,g,e1,e2,qT];refine aE ?_;simp(disch:=try exact ac)[e1,e2,qT];refine cd (args:=[.agg (qT c)]) sg' ?_ (by rfl)
   simp(disch:=try exact ac);refine aE ?_;simp(disch:=try exact ac)[clean,iN,jf,fU,oJ,offB,of1,of2,ew,iM,gN,dP,beq_lit];exact ih
  .have sz:¬sgn c.1=0:=fun e=>hz (y9.1 e)
   have hpx:=hp x (by rw[<-hr];simp);have at_:=TL (x:=sY p) (y:=sV s) (M:=M) (m:=n) (i:=cs.length) (a:=qa x M) (lt:=j5 M p s) (by rw[ui M hps];omega) (by rw[AY M hps aa (by rw[hcn];exact hz),hpn]) (xa A hpx hM).2 hn (pA hM);obtain⟨bd,hbd⟩:∃bd:Bd,bd=(x,(n:Int),ag (qa x M/2^(M-n))):=⟨_,rfl⟩
   have ih:=ih (bs++[bd]) (by simp[mG,hz,hbs,hbd])
   have hli:∀H:Hp,fj 1 [D.int IntKind.i64 0,D.int IntKind.i64 0,D.str []] [(0,.agg [I x,I n,S (ag (qa x M/2^(M-n)))])] H=some (cD bd,H):=fun H=>by
    simp[fj,fS,hO,toD,cD,hbd]
   have hfl:=sE cD nO bs;have of1:=Kl (bs.length+1) (bs.flatMap cD++cD bd);have of2:=Ko (bs.length+1) (bs.flatMap cD++cD bd);have ov:=H7 dcA bs.length (bs.flatMap cD);simp(disch:=try exact ac)[jh,g,e1,e2,qT];refine aE ?_;simp(disch:=try exact ac)[e1,e2,qT]
   refine cd (args:=[.agg (qT c)]) sg' ?_ (by rfl);simp(disch:=try exact ac)[sz];refine aE ?_;simp(disch:=try exact ac)[i1,i2];refine cd at_ ?_;simp(disch:=try exact ac);rw[hli];simp(disch:=try exact ac)
   refine rI dcA (k:=1) (cs:=cD bd) aa (by rfl) (by rw[hfl];rfl) rfl rfl af aa (by simp[dcA]) ?_;have hv:=H7 dcA (bs.length+1) (bs.flatMap cD++cD bd);simp only[offB]at of2;simp only[Zo,List.length_singleton,List.flatMap_append,List.flatMap_singleton]at ih;simp only[show dcA.s=3 from rfl];simp only[dcH]at ih ⊢
   generalize dcA.v (bs.length+1) (bs.flatMap cD++cD bd)=vv at *;generalize dcA.b (bs.length+1) (bs.flatMap cD++cD bd)=bb at *
   have ds:∀(s0 s2 s3:Nat×Bk)(x y:V),okV y=true->st [s0,(1,.vars [I sg,I n,x]),s2,s3] 1 (.ptr 1 1 2 3) y=some [s0,(1,.vars [I sg,I n,y]),s2,s3]:=fun s0 s2 s3 x y hy=>by
    cases y<;>first|(simp[st,sto,aH,cK,hy];done)|cases hy
   simp(disch:=try exact ac)[ds _ _ _ _ _ hv,clean,iN,jf,fU,oJ,offB,of1,of2,ew,iM,gN,dP,beq_lit];exact ih
theorem abe(A:kY)(hpc:pcB p=0)(hp:∀x∈p,bw x=true)(hs:okS s)(hps:p.length=s.length)(hN:s.length<=8)(hz:(s.all fun a=>decide (a.1=0))=false):
  CP Y F.dG [lst di p,szV s] (match yf p s 6 32 with
   |some M=>.tup [.agg [I (AJ (jg p s M (bsGo (tX p s M) 1001 0 M)).1 (jg p s M (bsGo (tX p s M) 1001 0 M)).2),I (bsGo (tX p s M) 1001 0 M),gR cD (mG M (bsGo (tX p s M) 1001 0 M) p s)],I 0]
   |none=>.tup [.agg [I 0,I 0,.d (.sl 0 [])],I 4]):=by
 refine sN ?_
 have ck:CP Y F.mc [lst di p,szV s] (I 0):=by
  have:=DN (p:=p) (s:=s.map tx) aa (fun x hx=>by
   obtain⟨q,hq,rfl⟩:=X4.1 hx;have:=Ma (hs q hq).2;omega) ak
  have e:siB p (s.map tx)=0:=by
   unfold siB scB;rw[if_pos hpc,if_pos (by simp[hps]),HK hs]
  rwa [e]at this
 have ze:=K6 (l:=s) aa;rw[hz]at ze;have ls:=SY A hp hs hps hN;have hl:aj (szV s)=some (I s.length):=by simp[szV,gR,aj]
 simp(disch:=try exact ac)[dG];refine cd ck ?_ (by simp[av,aP,szV]);simp(disch:=try exact ac);refine cd ze ?_ (by simp[av,aP,szV]);simp(disch:=try exact ac);refine cd ls ?_ (by simp[av,aP,szV]);cases hf:yf p s 6 32 with
 | none=>
  simp(disch:=try exact ac);exact⟨_,rfl⟩
 | some M=>
  obtain⟨hM,hT⟩:=zT (.inl rfl) hf;obtain⟨hT2,hn⟩:=Da (tX p s M) 1001 0 M hT;obtain⟨n,hnd⟩:=nmQ (bsGo (tX p s M) 1001 0 M);rw[<-hnd]at hn hT2;have en:=EQ A hp hs hps hN hM hn;have sg:=K8 (jg p s M n).1 (jg p s M n).2;obtain⟨z,hzd⟩:=nmQ (AJ (jg p s M n).1 (jg p s M n).2);rw[<-hzd]at sg;simp only[<-hnd];rw[<-hzd]
  have loop:=fun K hK=>TZ A hp hs hps hN hM hn z K _ rfl s p [] [] rfl rfl rfl hK [] rfl
  have hfl:=fun bs:List Bd=>sE cD nO bs
  simp(disch:=try exact ac);refine cd en ?_;simp(disch:=try exact ac);refine cd (args:=[.agg (qT (jg p s M n).1),.agg (qT (jg p s M n).2)]) sg ?_ (by rfl);simp(disch:=try exact ac)[hl];refine lo (loop _ fun bs hbs=>?_);have ov:=H7 dcA bs.length (bs.flatMap cD)
  obtain⟨h',a1,_⟩:=uJ dcA (L:=bs.length) (cells:=bs.flatMap cD) (h:=[(1,.vars [I z,I n,dcA.v bs.length (bs.flatMap cD)]),(1,.vars [I z,I n,dcA.v bs.length (bs.flatMap cD)]),nnQ,dcA.b bs.length (bs.flatMap cD)]) rfl (by rw[hfl];rfl);rw[<-hbs];simp(disch:=try exact ac)[ov];exact⟨h',by simp[aP,av,a1,norm,gR]⟩
theorem LD(hu:(h.all fun x=>aT h.length x.2)=true){l:LiQ}(hl:0<l.length)(hb:l.length<1000000000000):CI Y F.d7 [lst di l] h (.new 1 (l.map di) false l.length l.length) h:=by
 refine uT ?_;simp(disch:=try exact ac)[d7]
 have hli:fj 0 [D.int IntKind.i64 0] [] (h++[(0,Bk.none),(0,Bk.none)])=some ([],h++[(0,Bk.none),(0,Bk.none)]):=by
  simp[fj,fS,hO]
 rw[hli];simp(disch:=try exact ac);refine uC (z:=[]) ae hl af aa ?_;simp(disch:=try exact ac);refine⟨af,?_,.inr (.inr (.inl ⟨h.length+1,1,l.length,l.length,1,l.map di,false,af,aa,by simp[aH],rfl⟩))⟩;simp only[Xz,hu,Y9]
 try simp[aT]
theorem WY{a b d e f:Nat×Bk}{l:LiQ}{i j:Nat}(hj:j=i+1)(hi:i<l.length)(hb:l.length<1000000){q:kkQ}{u:PU q}
  (hq:q (.ref 2 1 0 (l.length-1) l.length l.length) [a,b,(1,.data 1 ((l.take i++l.drop j++l.drop (l.length-1)).map di) false false),d,e,f]) :
  rh (apV false 5 1 8 (.ref 2 1 0 i l.length l.length) (.ref 2 1 j (l.length-j) (l.length-j) l.length) [a,b,(1,.data 1 (l.map di) false false),d,e,f]) q u:=by
 unfold rh apV;have hg:∀x,aH [a,b,(1,x),d,e,f] 2 1=x:=fun x=>rfl
 simp only[cellsOf,hg,Zd,Y0];rw[if_pos ⟨trivial,aa⟩];simp only[];have htl:(((l.map di).drop j).take (l.length-j)).length=l.length-j:=af;rw[if_pos htl];unfold apC;by_cases h0:l.length-j=0
 .rw[if_pos h0];simp only[];rw[if_pos aa]
  have e1:l.take i++l.drop j++l.drop (l.length-1)=l:=by
   rw[Zv aa,Yj,show l.length-1=i by omega,Ys]
  rw[e1,show l.length-1=i by omega]at hq;exact hq
 .rw[if_neg h0];simp only[hg,Zd,Y0];rw[if_pos ⟨trivial,trivial,aa,aa,htl⟩,if_pos aa];simp only[Bool.or_self,Zi,if_false,Zn]
  have e1:List.take i (l.map di)++((l.map di).drop j).take (l.length-j)++List.drop (i+(l.length-j)) (l.map di)=(l.take i++l.drop j++l.drop (l.length-1)).map di:=by
   rw[Z0 (l:=(l.map di).drop j) af,show i+(l.length-j)=l.length-1 by omega];simp
  rw[e1,show i+(l.length-j)=l.length-1 by omega];exact hq
theorem abd{a b d e:Nat×Bk}{l:LiQ}(hn:n=l.length)(hi:i<n)(hb:n<1000000)(hu:(aT 5 a.2&&aT 5 b.2&&aT 5 d.2&&aT 5 e.2)=true):
  CI Y F.dO [.ref 2 1 0 n n n,I i,I (i+1:Nat)] [a,b,(1,.data 1 (l.map di) false false),d,e] (.ref 2 1 0 (n-1) n n) [a,b,(1,.data 1 ((l.eraseIdx i++[0]).map di) false false),d,e]:=by
 subst hn;refine t6 ?_;have h1:¬(i:Int)=((i+1:Nat):Int):=aa;obtain⟨j,hj⟩:=nmQ (i+1);rw[<-hj]at h1 ⊢
 have hsx:slX [a,b,(1,.data 1 (l.map di) false false),d,e,nnQ] 1 (.ref 2 1 0 l.length l.length l.length) (some (I i)) (some (I j)) (I l.length)=some (.ref 2 1 i (j-i) (l.length-i) l.length):=by
  simp[slX,aH,boV,show j<=l.length by omega,show i<=j by omega]
 have hs1:slV [a,b,(1,.data 1 (l.map di) false false),d,e,nnQ] 1 (.ref 2 1 0 l.length l.length l.length) none (some (I i))=some (.ref 2 1 0 i l.length l.length):=by
  simp[slV,aH,boV,show i<=l.length by omega]
 have hs2:slV [a,b,(1,.data 1 (l.map di) false false),d,e,nnQ] 1 (.ref 2 1 0 l.length l.length l.length) (some (I j)) none=some (.ref 2 1 j (l.length-j) (l.length-j) l.length):=by
  simp[slV,aH,boV,show j<=l.length by omega]
 simp(disch:=try exact ac)[dO,hsx,hs1,hs2,h1];refine WY hj hi hb ?_;have hxl:(l.take i++l.drop j++l.drop (l.length-1)).length=l.length:=by simp;omega
 have hs3:slV [a,b,(1,.data 1 ((l.take i++l.drop j++l.drop (l.length-1)).map di) false false),d,e,nnQ] 1 (.ref 2 1 0 (l.length-1) l.length l.length) (some (I (l.length-1:Nat))) (some (I l.length))=some (.ref 2 1 (l.length-1) 1 (l.length-(l.length-1)) l.length):=by
  simp only[slV,aH,List.getElem?_cons_succ,List.getElem?_cons_zero,if_true,boV,Zd,hxl];rw[if_pos ⟨aa,aa⟩];simp only[Int.toNat_natCast];rw[if_pos ⟨aa,aa⟩];simp only[Int.toNat_natCast];rw[if_pos ⟨trivial,aa,trivial⟩];congr 2<;>omega
 have herase:(l.take i++l.drop j++l.drop (l.length-1)).take (l.length-1)=l.eraseIdx i:=by
  rw[Yo ak,List.eraseIdx_eq_take_drop_succ,hj]
 obtain⟨E,hE⟩:=nmQ (l.eraseIdx i++[0]);rw[<-hE]
 have hclr:∀q:kkQ,q (.tup []) [a,b,(1,.data 1 (E.map di) false false),d,e,nnQ]->IR [a,b,(1,.data 1 ((l.take i++l.drop j++l.drop (l.length-1)).map di) false false),d,e,nnQ] [D.int .i64 0] (.ref 2 1 (l.length-1) 1 (l.length-(l.length-1)) l.length) q:=by
  intro q hq;generalize l.take i++l.drop j++l.drop (l.length-1)=X at *
  have e1:List.take (l.length-1) (X.map di)++[D.int .i64 0]++List.drop (l.length-1+1) (X.map di)=E.map di:=by
   rw[<-List.map_take,herase,Zv ak,hE];simp[di]
  simp only[IR,aH,List.getElem?_cons_succ,List.getElem?_cons_zero,if_true,List.length_singleton,Zd,hxl,fS,Yj];rw[if_pos ⟨aa,trivial,aa,trivial,trivial,aa⟩,e1];exact hq
 generalize l.take i++l.drop j++l.drop (l.length-1)=X at *;simp(disch:=try exact ac)[hs3];refine hclr _ ?_;refine⟨rfl,?_,.inl ⟨rfl,by simp[under]⟩⟩;simp only[Z8]at hu;obtain⟨⟨⟨u1,u2⟩,u3⟩,u4⟩:=hu;simp only[List.all_cons,Wl,u1,u2,u3,u4,Y9];rfl
def pU(r:LiQ)(f:LiQ->Int)(cols:LiQ):Nat->Nat->Int
 |0,_=>0
 |k+1,i=>(if i%2=1 then -(nth 0 r (nth 0 cols i).toNat*f (cols.eraseIdx i))else nth 0 r (nth 0 cols i).toNat*f (cols.eraseIdx i))+pU r f cols k (i+1)
def vT:LLQ->LiQ->Int
 |[],_=>1
 |r::m,cols=>pU r (vT m) cols cols.length 0
theorem Dv{r:LiQ}(hr:gD r=true){c:Nat}(hc:c<r.length){K:Nat}(hx:x.natAbs<=K)(b:Bool):(if b=true then -(nth 0 r c*x)else nth 0 r c*x).natAbs<=1000000000*K:=by
 have hm:vA (nth 0 r c)=true:=by
  simp only[gD,Zq]at hr;exact hr _ (iO hc)
 rw[rQ]at hm;have h1:=Zg (show(nth 0 r c).natAbs<=1000000000 by omega) hx;rw[<-Y3]at h1;cases b
 .simpa using h1
 .simpa using h1
theorem EM(h:∀c∈cols,0<=c∧c<(n:Int))(i:Nat):∀c∈cols.eraseIdx i,0<=c∧c<(n:Int):=fun c hc=>h c (List.mem_of_mem_eraseIdx hc)
theorem yg{r:LiQ}(hr:gD r=true){f:LiQ->Int}{cols:LiQ}(hc:∀c∈cols,0<=c∧c<(r.length:Int)){K:Nat}(hf:∀i,i<cols.length->(f (cols.eraseIdx i)).natAbs<=K):∀(k i:Nat),i+k=cols.length->(pU r f cols k i).natAbs<=k*(1000000000*K)
 |0,i,h=>by simp[pU]
 | k+1,i,h=>by
  have ih:=yg hr hc hf k (i+1) aa;have hci:=hc (nth 0 cols i) (iO aa);have ht:=Dv hr (c:=(nth 0 cols i).toNat) aa (hf i aa) (decide (i%2=1));simp only[decide_eq_true_eq]at ht;simp only[pU];rw[X3];omega
theorem yK:∀(m:LLQ)(cols:LiQ)(n:Nat),(∀r∈m,gD r=true∧r.length=n)->(∀c∈cols,0<=c∧c<(n:Int))->cols.length<=12->(vT m cols).natAbs<=100000000000^m.length
 |[],cols,n,_,_,_=>by simp[vT]
 | r::m,cols,n,hm,hc,hl=>by
  have hr:=hm r af;have h:=yg (f:=vT m) (K:=100000000000^m.length) hr.1 (by rw[hr.2];exact hc) (fun i hi=>yK m _ n (fun q hq=>hm q (by simp[hq])) (EM hc i) (by rw[Wm];split<;>omega)) cols.length 0 aa;simp only[vT];refine Zs h ?_;rw[List.length_cons,Nat.pow_succ,<-Nat.mul_assoc,Zw (100000000000^m.length)]
  exact Zx _ aa
abbrev z0:Nat×Bk:=(1,.vars [.d (.bool false),.d nPQ])
def dtH(s:Int)(xv:V):Hp:=[z0,(1,.vars [.d (.bool (decide (s<0))),xv]),nnQ,nnQ,nnQ]
theorem Qb{v:V}(h:isN v n)(b:Nat):under b v=true:=by rcases h with rfl|⟨_,rfl⟩<;>rfl
theorem IB{v:V}(h:isN v n)(clr:LnQ):pL clr v=true:=by rcases h with rfl|⟨_,rfl⟩<;>rfl
theorem VX(n:Nat):isN (.d (hQ n)) n:=.inl rfl
theorem Lp{r:LiQ}{m:LLQ}{cols:LiQ}(hr:gD r=true)(hc:∀c∈cols,0<=c∧c<(r.length:Int))(hl:cols.length<=12)(hml:m.length<=12)
  (hrec:∀i,i<cols.length->CP Y F.cU [mat m,lst di (cols.eraseIdx i)] (fH (vT m (cols.eraseIdx i)))) (hb:∀i,i<cols.length->(vT m (cols.eraseIdx i)).natAbs<=100000000000^m.length)
  (k:KL) (h0:Hp) (hh:h0=[z0,(1,.vars [.d (.bool false),.d nPQ]),nnQ,nnQ,nnQ]) :
  ∀(n i:Nat)(s:Int)(xv:V),i+n=cols.length->isN xv s.natAbs->s.natAbs<=i*(1000000000*100000000000^m.length) ->
  (∀xv',isN xv' (s+pU r (vT m) cols n i).natAbs->k (.exit 0) [] (dtH (s+pU r (vT m) cols n i) xv')) ->
  lp (eT (CX Y) (mat (r::m)) (lst di cols) (.ptr 1 1 0 2) (lst di cols) (I cols.length)) [2,3,4] h0 [I i] (dtH s xv) k
 | 0,i,s,xv,hi,hx,hs,hk=>by
  refine ai ?_;simp(disch:=try exact ac)[eT];have:=hk xv (by simpa[pU]using hx);simpa[pU]using this
 | n+1,i,s,xv,hi,hx,hs,hk=>by
  have hic:i<cols.length:=aa;have hci:=hc (nth 0 cols i) (iO hic);have ih:=Lp hr hc hl hml hrec hb k h0 hh n (i+1);simp only[pU,<-Int.add_assoc]at hk;obtain⟨c,hcc⟩:∃c:Nat,nth 0 cols i=c:=⟨(nth 0 cols i).toNat,aa⟩;rw[hcc]at hci;rw[hcc,Int.toNat_natCast]at hk
  have eI:∀h:Hp,ixV h 1 (lst di cols) (.d (.int .i64 (i:Int)))=some (.dptr (cols.map di) i):=fun h=>jL di _ h rfl hic
  have eL:∀h:Hp,ld1 h (.dptr (cols.map di) i)=some (.d (di (c:Int))):=fun h=>by rw[MR cols h hic,hcc]
  have e0:nth [] (r::m) 0=r:=rfl;have hK:=hb i hic;have ht0:=Dv hr (c:=c) aa hK;have ht:=ht0 (decide (i%2=1));simp only[decide_eq_true_eq]at ht;obtain⟨e,he⟩:=mnQ (nth 0 r c);obtain⟨d,hd⟩:=mnQ (vT m (cols.eraseIdx i));rw[he,hd]at hk ht ht0;rw[hd]at hK;obtain⟨t,htt⟩:∃t,(if i%2=1 then -(e*d)else e*d)=t:=⟨_,rfl⟩;rw[htt]at hk ht
  have hnext:(s+t).natAbs<=(i+1)*(1000000000*100000000000^m.length):=by
   rw[X3];omega
  have ih':=fun xv' hx'=>ih (s+t) xv' aa hx' hnext hk
  refine ai ?_;subst hh;by_cases he0:e=0
  .have ht0':t=0:=by rw[<-htt,he0];simp
   rw[ht0',Int.add_zero]at ih';have:=ih' xv hx;simp(disch:=try exact ac)[eT];refine aE ?_;have hxo:=IB hx [2,3,4];simp(disch:=try exact ac)[eI,eL,e0,he,he0,dtH,clean,iN,hxo,jf,fU,oJ,nY,offB,ew,iM,gN,dP,beq_lit];simpa[dtH]using this
  .have hxo:=IB hx [2,3,4];have hxu:=Qb hx 5;have hcl:0<cols.length:=aa
   have hfe:∀z:Int,z.natAbs<=12*(1000000000*100000000000^m.length)->fits z:=fun z hz=>by
    refine oM (k:=200) (Zu hz ?_) aa;have h1:(100000000000:Nat)^m.length<=100000000000^12:=Z6 ae hml;have h2:12*(1000000000*100000000000^12)<10^200:=ae;have h3:12*(1000000000*100000000000^m.length)<=12*(1000000000*100000000000^12):=Zy _ (Zy _ h1);omega
   have hile:i*(1000000000*100000000000^m.length)<=12*(1000000000*100000000000^m.length):=Zx _ aa;have hile2:1000000000*100000000000^m.length<=12*(1000000000*100000000000^m.length):=aa;have hde:=rQ.1 (by simp only[gD,Zq]at hr;rw[<-he];exact hr _ (iO aa):vA e=true);have hnum:=qp (n:=e) aa
   have hdet:=hrec i hic;rw[hd]at hdet;have htim:=wt (a:=e) (b:=d) (kS aa aa) (hfe d aa);have hadd:=Fz (a:=s) (b:=t) (hfe s aa) (hfe t aa);have hclone:=LD (h:=dtH s xv) (by simp[dtH,aT,o7,hxu,under]) (l:=cols) hcl aa
   have hdel:=fun(b3 b4:Nat×Bk)(h3:aT 5 b3.2=true)(h4:aT 5 b4.2=true)=>abd (a:=z0) (b:=(1,.vars [.d (.bool (decide (s<0))),xv])) (d:=b3) (e:=b4) (l:=cols) (i:=i) (n:=cols.length) rfl hic aa (by rw[h3,h4];simp[aT,o7,hxu,under])
   have hsl:∀h:Hp,slV h 1 (mat (r::m)) (some (.d (.int .i64 1))) none=some (mat m):=fun h=>by
    have:=ab9 row (r::m) h (i:=1) aa ak af;simpa using this
   simp(disch:=try exact ac)[eT];refine aE ?_;simp(disch:=try exact ac)[eI,eL,e0,he,he0];refine cd hnum ?_;simp(disch:=try exact ac)[hsl];refine dX (eU (s:=2) (e:=0) (b:=.none) hclone rfl ?_);obtain⟨j,hj⟩:=nmQ (i+1);have hji:((i:Int)+1)=(j:Int):=aa;simp only[<-hj]at hdel
   have hel:(cols.eraseIdx i).length=cols.length-1:=by rw[Wm,if_pos hic]
   obtain⟨E,hE⟩:=mnQ ((cols.eraseIdx i++[0]).map di);have hE1:E.length=cols.length:=by rw[<-hE];simp[hel];omega
   have hE2:E.take (cols.length-1)=(cols.eraseIdx i).map di:=by rw[<-hE,List.map_append,Yo (by simp[hel])]
   simp only[hE]at hdel;simp(disch:=try exact ac)[hji,dtH];refine dX (iG (hdel nnQ nnQ rfl rfl) ?_ af);simp(disch:=try exact ac);refine cdz (ds:=[mat m,lst di (cols.eraseIdx i)]) (h':=[z0,(1,.vars [.d (.bool (decide (s<0))),xv]),(1,.data 1 E false true),nnQ,nnQ]) ?_ hdet ?_
   .simp[av,aP,toD,aH,lst,hel,hE1,hE2]
   .have hpl:gh (fH d)=false:=rfl;have htn:=Pi (e*d);have hxs:=qP hx;rw[hpl];simp(disch:=try exact ac);refine cd htim ?_;have hrem:((i:Int).tmod 2=1)↔i%2=1:=by rw[Z4 aa];omega
    have tail:bnd (ldA ([z0,(1,.vars [.d (.bool (decide (s<0))),xv]),(1,.data 1 E false true),nnQ,(1,.vars (jZ t))]) 2 (.ptr 1 1 0 2)) fun v29=>
      bnd (ldA ([z0,(1,.vars [.d (.bool (decide (s<0))),xv]),(1,.data 1 E false true),nnQ,(1,.vars (jZ t))]) 2 (.ptr 4 1 0 2)) fun v30=>
      cal (CX Y).p ([z0,(1,.vars [.d (.bool (decide (s<0))),xv]),(1,.data 1 E false true),nnQ,(1,.vars (jZ t))]) (.fn F.bM [] []) [v29,v30] fun v31 h=>
      stD h 2 (.ptr 1 1 0 2) v31 fun _ h=>
      bnd (biI .add (I i) (.d (.int .i64 1))) fun v4=>
      lpK [2,3,4] [z0,z0,nnQ,nnQ,nnQ] (fun l h=>lp (eT (CX Y) (mat (r::m)) (lst di cols) (.ptr 1 1 0 2) (lst di cols) (I cols.length)) [2,3,4] [z0,z0,nnQ,nnQ,nnQ] l h k) k .normal [v4] h:=by
     have:=ih' (.d (hQ (s+t).natAbs)) (VX _);generalize hst:s+t=st at *;simp(disch:=try exact ac)[jZ];refine cdx (ds:=[fH s,fH t]) (by simp[av,aP,hxs,fH,jZ,eZ]) hadd ?_;simp(disch:=try exact ac)[fH,jZ,hji,clean,iN,jf,fU,oJ,nY,offB,ew,iM,gN,dP,beq_lit]
     simpa[dtH,<-hji]using this
    by_cases hodd:i%2=1
    .have hr1:=eq_true (hrem.2 hodd);rw[if_pos hodd]at htt;rw[htt]at htn;simp(disch:=try exact ac)[fH,jZ,hr1];refine aE ?_;simp(disch:=try exact ac)[hr1];refine cd (args:=[.agg (jZ (e*d))]) htn ?_ (by simp[av,aP,jZ]);simp(disch:=try exact ac)[fH,jZ];simp(disch:=try exact ac)[jZ]at tail;exact tail
    .have hr1:¬(i:Int).tmod 2=1:=fun h=>hodd (hrem.1 h)
     rw[if_neg hodd]at htt;rw[htt]at *;simp(disch:=try exact ac)[fH,jZ,hr1];refine aE ?_;simp(disch:=try exact ac)[hr1,jZ];simp(disch:=try exact ac)[jZ]at tail;exact tail
theorem TW:∀(m:LLQ)(cols:LiQ)(n:Nat),(∀r∈m,gD r=true∧r.length=n)->(∀c∈cols,0<=c∧c<(n:Int))->cols.length<=12->m.length<=12->CP Y F.cU [mat m,lst di cols] (fH (vT m cols))
 | [],cols,n,hm,hc,hl,hml=>by
  refine qd ?_;simp(disch:=try exact ac)[cU];refine cd (qp (n:=1) aa) ?_;simp(disch:=try exact ac)[fH,jZ];exact pd (by simp[aP,av,vT,fH,jZ])
 | r::m,cols,n,hm,hc,hl,hml=>by
  have hr:=hm r af;simp at hml;refine qd ?_;simp(disch:=try exact ac)[cU]
  refine lo (Lp hr.1 (by rw[hr.2];exact hc) hl aa (fun i hi=>TW m _ n (fun q hq=>hm q (by simp[hq])) (EM hc i) (by rw[Wm];split<;>omega) aa)
   (fun i hi=>yK m _ n (fun q hq=>hm q (by simp[hq])) (EM hc i) (by rw[Wm];split<;>omega)) _ _ rfl cols.length 0 0 (.d nPQ) aa (.inr ⟨rfl,rfl⟩) af fun xv' hx=>?_)
  have hok:=MV hx;simp only[Int.zero_add]at hx ⊢;have e:pU r (vT m) cols cols.length 0=vT (r::m) cols:=rfl;rw[e]at hx ⊢;generalize vT (r::m) cols=d at *;simp(disch:=try exact ac)[dtH,hok];refine pd ?_;simp[aP,av,qP hx,fH,jZ,eZ]
def mU(set:Nat):Nat->Nat->LiQ
 |0,_=>[]
 |k+1,c=>if set/2^c%2=1 then(c:Int)::mU set k (c+1)else mU set k (c+1)
theorem yL(set:Nat):∀(k c:Nat),∀x∈mU set k c,(c:Int)<=x∧x<((c+k:Nat):Int)
 |0,c,x,h=>by simp[mU]at h
 | k+1,c,x,h=>by
  have ih:=yL set k (c+1) x;simp only[mU]at h;split at h
  .rcases Zc.1 h with rfl|h
   .omega
   .have:=ih h;omega
  .have:=ih h;omega
theorem yM(set:Nat):∀(k c:Nat),(mU set k c).length<=k
 |0,c=>by simp[mU]
 | k+1,c=>by
  have ih:=yM set k (c+1);simp only[mU];split
  .simp;omega
  .omega
def yE(m:LLQ)(n:Nat):Nat->Nat->Nat->Nat
 |0,_,g=>g
 |k+1,set,g=>yE m n k (set+1) (if(mU set n 0).length=m.length then Nat.gcd g (vT m (mU set n 0)).natAbs else g)
def KZ(m:LLQ)(n:Nat):Bool:=decide (yE m n (2^n) 0 0=1)
theorem UB{a:Nat}(h:a<9223372036854775808):biI .and (.d (.int .i64 a)) (.d (.int .i64 1))=some (.d (.int .i64 ((a%2:Nat):Int))):=by
 have ea:(BitVec.ofInt 64 (a:Int)).toNat=a:=by simp[BitVec.toNat_ofInt];omega
 have eb:(BitVec.ofInt 64 (1:Int)).toNat=1:=ae;have e:(BitVec.ofInt 64 (a:Int)&&&BitVec.ofInt 64 1).toNat=a%2:=by rw[BitVec.toNat_and,ea,eb,Nat.and_one_is_mod]
 show mB (some (Value.int .i64 (IntKind.wrap .i64 ((BitVec.ofInt 64 (a:Int)&&&BitVec.ofInt 64 1).toNat:Int))))=_
 rw[e,pu aa aa];rfl
def flA:Acc:=⟨0,0,1,.none⟩
theorem OH{set n:Nat}(hs:set<100000)(hn:n<=12)(k:KL)(h0:Hp)(hh:h0.length=1):∀(r c:Nat)(d:LiQ),c+r=n->d.length<=c ->
  k (.exit 2) [flA.v (d++mU set r c).length ((d++mU set r c).map di)] [flA.b (d++mU set r c).length ((d++mU set r c).map di)] ->
  lp (mF (CX Y) (I set) (I n)) [] h0 [flA.v d.length (d.map di),I c] [flA.b d.length (d.map di)] k
 | 0,c,d,hc,hd,hk=>by
  refine ai ?_;simp(disch:=try exact ac)[mF];simpa[mU]using hk
 | r+1,c,d,hc,hd,hk=>by
  have ih:=OH hs hn k h0 hh r (c+1);have hsh:(set:Int)/2^c=((set/2^c:Nat):Int):=af;have hlt:set/2^c<9223372036854775808:=Zu (Y5 _ _) aa;have ha:=UB hlt;simp only[mU]at hk;obtain⟨x,hx⟩:=mnQ (set/2^c);rw[hx]at ha hsh hk;refine ai ?_;by_cases h1:x%2=1
  .rw[if_pos h1]at hk;have h1':((x:Int)%2=1)=True:=eq_true aa
   have hli:∀H:Hp,fj 1 [D.int IntKind.i64 0] [(0,I (c:Int))] H=some ([di c],H):=fun H=>by
    simp[fj,fS,hO,toD,di]
   have:=ih (d++[(c:Int)]) aa ak (by simpa using hk);simp(disch:=try exact ac)[mF];refine aE ?_;simp(disch:=try exact ac)[hsh,ha,h1'];refine aE ?_;simp(disch:=try exact ac)[h1',hli];refine rI flA (k:=1) (cs:=[di c]) aa (by rfl) (by simp[flA]) rfl rfl af aa (by simp[flA]) ?_
   simp(disch:=try exact ac)[show flA.s=0 from rfl,hh];simpa[flA,Acc.v,Acc.b]using this
  .rw[if_neg h1]at hk;have h1':((x:Int)%2=1)=False:=eq_false aa;have:=ih d aa aa hk;simp(disch:=try exact ac)[mF];refine aE ?_;simp(disch:=try exact ac)[hsh,ha,h1'];refine aE ?_;simp(disch:=try exact ac)[h1',hh];simpa using this
theorem Lr(hm:∀r∈m,gD r=true∧r.length=n)(hc:∀c∈cols,0<=c∧c<(n:Int))(hl:cols.length<=12)(hml:m.length<=12):len (vT m cols).natAbs<=132:=by have h:=yK m cols n hm hc hl;have h1:(100000000000:Nat)^m.length<=100000000000^12:=Z6 ae hml;have h2:(100000000000:Nat)^12<10^133:=ae;have h3:(100000000000:Nat)^12<W^132:=ae;exact pj aa
theorem Hb{m:LLQ}{n:Nat}(hm:∀r∈m,gD r=true∧r.length=n)(hn:n<=12)(hml:m.length<=12)(k:KL)(N:Nat)(hN:N<100000):∀(r set g:Nat)(gv:V),set+r=N->isN gv g->len g<=132 ->
  (∀gv',isN gv' (yE m n r set g)->k (.exit 0) [gv'] [nnQ]) ->
  lp (oW (CX Y) (mat m) (I n) (I N)) [0] [nnQ] [gv,I set] [nnQ] k
 | 0,set,g,gv,hs,hg,hgl,hk=>by
  refine ai ?_;simp(disch:=try exact ac)[oW];exact hk gv hg
 | r+1,set,g,gv,hs,hg,hgl,hk=>by
  have ih:=Hb hm hn hml k N hN r (set+1);have hcm:=yL set n 0;have hcl:=yM set n 0;simp only[yE]at hk;refine ai ?_;simp(disch:=try exact ac)[oW];refine aE ?_;simp(disch:=try exact ac);refine lo (OH (n:=n) aa hn _ _ rfl n 0 [] aa (Z7 _) ?_);simp only[List.nil_append]
  generalize mU set n 0=cols at *;have hlv:=FB flA cols.length (cols.map di);have hc:∀c∈cols,0<=c∧c<(n:Int):=fun c h=>by have:=hcm c h;omega
  have hoS:∀L c,pL [0] (flA.v L c)=true∨True:=fun _ _=>.inr trivial
  have hgo:=IB hg [0];by_cases h:cols.length=m.length
  .have h':=eq_true h;rw[if_pos h]at hk;have hd:=TW m cols n hm hc aa hml;have hdl:=Lr hm hc aa hml;obtain⟨d,hdd⟩:=mnQ (vT m cols);rw[hdd]at hd hdl hk;have hco:=Hr (a:=g) (b:=d.natAbs) aa aa
   have hgc:len (Nat.gcd g d.natAbs)<=132:=by
    rcases Zl g with e|e
    .subst e;rw[Nat.gcd_zero_left];exact hdl
    .exact Zs (pM (Nat.gcd_le_left _ e)) hgl
   have:=ih _ (nat (Nat.gcd g d.natAbs)) aa (.inl rfl) hgc hk;obtain⟨h1,e1,e2⟩:=uJ flA (L:=cols.length) (cells:=cols.map di) (h:=[flA.b cols.length (cols.map di)]) rfl (by simp[flA])
   have hoff:clean [0] [nat (Nat.gcd g d.natAbs),I (set+1:Nat)] h1=true∧bm [0] 0 [nnQ] h1=[nnQ]:=by
    rcases e2 with⟨_,rfl⟩|⟨_,rfl⟩
    .have:pL [0] (nat (Nat.gcd g d.natAbs))=true:=rfl;simp[clean,iN,jf,this,fU,oJ,dP,beq_lit,ew,bm]
    .have:pL [0] (nat (Nat.gcd g d.natAbs))=true:=rfl;simp[clean,iN,jf,this,fU,oJ,dP,beq_lit,ew,bm,show flA.s=0 from rfl]
   simp(disch:=try exact ac)[hlv,h'];refine aE ?_;simp(disch:=try exact ac)[h'];refine cdz (ds:=[mat m,lst di cols]) (h':=h1) ?_ hd ?_
   .have e3:aP [flA.b cols.length (cols.map di)] (flA.v cols.length (cols.map di))=some (lst di cols,h1):=e1;rw[h]at e3;simp[av,mat,e3,h]
   .rw[show gh (fH d)=false from rfl];simp(disch:=try exact ac)[fH,jZ];refine cdx (ds:=[nat g,nat d.natAbs]) (by simp[av,aP,qP hg,eZ]) hco ?_;simp(disch:=try exact ac);rw[show(set:Int)+1=((set+1:Nat):Int) by omega,hoff.2];exact⟨hoff.1,this⟩
  .rw[if_neg h]at hk;have:=ih g gv aa hg hgl hk;simp(disch:=try exact ac)[hlv,h];refine aE ?_;simp(disch:=try exact ac)[h,clean,iN,hgo,jf,fU,oJ,dP,gN,beq_lit,ew,iM];simpa using this
theorem OG(hm:∀r∈m,gD r=true∧r.length=n)(hn:n<=12)(hml:m.length<=12):CP Y F.ot [mat m,I n] (B (KZ m n)):=by
 refine Ff ?_;obtain⟨N,hN⟩:=mnQ (2^n);have hNl:N<=2^12:=by rw[<-hN];exact Z6 ae hn
 have hNi:(2:Int)^n=(N:Int):=by rw[<-hN];simp
 have hb:∀(k s g:Nat),len g<=132->len (yE m n k s g)<=132:=by
  intro k
  induction k with
  |zero=>intro s g h;exact h
  | succ k ih=>
   intro s g h;simp only[yE];refine ih _ _ ?_;split
   .rename_i hcl;have hdl:=Lr (cols:=mU s n 0) hm (fun c hc=>by have:=yL s n 0 c hc;omega) (by have:=yM s n 0;omega) hml;rcases Zl g with e|e
    .subst e;rw[Nat.gcd_zero_left];exact hdl
    .exact Zs (pM (Nat.gcd_le_left _ e)) h
   .exact h
 unfold KZ;rw[hN];simp(disch:=try exact ac)[ot,hNi];refine lo (Hb hm hn hml _ N aa N 0 0 _ aa (.inr ⟨rfl,rfl⟩) (by rw[zD];omega) fun gv hg=>?_);have hgl:=hb N 0 0 (by rw[zD];omega);have h40:(2:Nat)^40=1099511627776:=ae;generalize yE m n N 0 0=g at *
 have hor:=oI (a:=g) (b:=1) aa (by have:=pj (n:=1) (k:=1) ae;omega);rw[vf]at hor;simp(disch:=try exact ac)[mZ];refine cdx (ds:=[nat g,.d (.sl 1 [.int .u32 1])]) (by simp[av,qP hg]) hor ?_;simp(disch:=try exact ac);exact bL (by rw[decide_eq_decide,pZ])
def sf(m:LLQ):D:=.sl m.length (m.map row)
@[simp]theorem aaF(m:LLQ):norm (sf m)=sf m:=rfl
def fmB(n:Nat)(m:LLQ):Bool:=B7 m&&(decide (m.length=0)||decide ((m.headD []).length=n))&&KZ m n
def Gj(a:LiQ)(mp:LLQ):Bool:=mp.all fun b=>decide (sO a b=0)
def Dx(p:LiQ)(cm mp:LLQ):Bool:=mX p&&decide (cm.length+mp.length=p.length)&&(fmB p.length cm&&fmB p.length mp)&&cm.all fun a=>Gj a mp
theorem C5(h1:B7 m=true)(h2:m.length=0∨(m.headD []).length=n):(∀r∈m,gD r=true∧r.length=n)∧m.length<=12:=by
 have hm:qb m=true:=by simp only[B7,Z8]at h1;exact h1.1
 refine⟨fun r hr=>?_,by simp only[qb,Z8,decide_eq_true_eq]at hm;exact hm.1⟩;have:=rP hm r hr;rcases h2 with h|h
 .rw[Zt h]at hr;cases hr
 .exact⟨this.2.2,aa⟩
theorem NI{n:Nat}(hn:n<=12){l:List LLQ}(hl:∀m∈l,m.length<1000000000∧∀r∈m,r.length<1000000000)(hN:l.length<1000000000)(k:KL)(h:Hp)(h0:Hp)(hh:h0.length=h.length):∀(q a:List LLQ),a++q=l->(q.all (fmB n)=true->k (.exit 0) [] h)->(q.all (fmB n)=false->k .ret [B false] h) ->
  lp (jv (CX Y) (I n) (lst sf l) (I l.length)) [] h0 [I a.length] h k
 | []=>by
  intro a ha h1 h2;simp at ha;subst ha;refine ai ?_;simp(disch:=try exact ac)[jv];exact h1 rfl
 | m::q=>by
  intro a ha h1 h2;have hal:a.length<l.length:=by subst ha;simp
  have hm:nth [] l a.length=m:=by subst ha;simp
  have hml:=hl m (by subst ha;simp);have eI:ixV h 1 (lst sf l) (.d (.int .i64 (a.length:Int)))=some (.dptr (l.map sf) a.length):=jL sf _ h rfl hal
  have eL:ld1 h (.dptr (l.map sf) a.length)=some (mat m):=by
   have:=lC sf [] l h hal;rw[hm]at this;exact this
  have ih:=NI hn hl hN k h h0 hh q (a++[m]) (by simpa using ha);have hform:=WE (m:=m) aa (fun r hr=>by have:=hml.2 r hr;omega);simp only[List.all_cons]at h1 h2;refine ai ?_;simp(disch:=try exact ac)[jv,eI,eL];refine cd hform ?_ (by simp[av,mat]);by_cases g1:B7 m=true
  rotate_left
  .have:fmB n m=false:=by simp[fmB,g1]
   rw[this]at h2;simp(disch:=try exact ac)[g1];simpa using h2
  have hld:0<m.length->ld1 h (.dptr (m.map row) 0)=some (.d (row (nth [] m 0))):=fun h0=>VT m h h0
  by_cases g0:m.length=0
  .have hrw:=C5 (n:=n) g1 (.inl g0);have hfull:=OG (m:=m) hrw.1 hn hrw.2;by_cases g3:KZ m n=true
   .have:fmB n m=true:=by simp[fmB,g1,g0,g3]
    rw[this]at h1 h2;simp only[Y9]at h1 h2;have:=ih h1 h2;have g0':¬(0:Int)<(m.length:Int):=aa;simp(disch:=try exact ac)[g1,g0'];refine cd hfull ?_ (by simp[av,mat]);simp(disch:=try exact ac)[g3,hh];simpa using this
   .have:fmB n m=false:=by simp[fmB,g3]
    rw[this]at h2;have g0':¬(0:Int)<(m.length:Int):=aa;simp(disch:=try exact ac)[g1,g0'];refine cd hfull ?_ (by simp[av,mat]);simp(disch:=try exact ac)[g3];simpa using h2
  .have g0':(0:Int)<(m.length:Int):=aa;by_cases g2:(m.headD []).length=n
   .have g2':((nth [] m 0).length:Int)=(n:Int):=by rw[Eb];omega
    have hrw:=C5 (n:=n) g1 (.inr g2);have hfull:=OG (m:=m) hrw.1 hn hrw.2;by_cases g3:KZ m n=true
    .have:fmB n m=true:=by simp only[fmB,g1,g2,g3];simp
     rw[this]at h1 h2;simp only[Y9]at h1 h2;have:=ih h1 h2;simp(disch:=try exact ac)[g1,g0',g2'];refine cd hfull ?_ (by simp[av,mat]);simp(disch:=try exact ac)[g3,hh];simpa using this
    .have:fmB n m=false:=by simp[fmB,g3]
     rw[this]at h2;simp(disch:=try exact ac)[g1,g0',g2'];refine cd hfull ?_ (by simp[av,mat]);simp(disch:=try exact ac)[g3];simpa using h2
   .have g2':¬((nth [] m 0).length:Int)=(n:Int):=by rw[Eb];omega
    have:fmB n m=false:=by
     have e1:decide (m.length=0)=false:=by simpa using g0
     have e2:decide ((m.headD []).length=n)=false:=by simpa using g2
     simp only[fmB,g1,e1,e2];rfl
    rw[this]at h2;simp(disch:=try exact ac)[g1,g0',g2'];simpa using h2
theorem NG{a:LiQ}{mp:LLQ}(ha:gD a=true)(hal:a.length<=12)(hm:∀r∈mp,gD r=true∧r.length=a.length)(hml:mp.length<=12)(k:KL)(h h0:Hp)(hh:h0.length=h.length):∀(q p:LLQ),p++q=mp->(Gj a q=true->k (.exit 4) [] h)->(Gj a q=false->k .ret [B false] h) ->
  lp (jt (CX Y) (.d (row a)) (mat mp) (I mp.length)) [] h0 [I p.length] h k
 | []=>by
  intro p hp h1 h2;simp at hp;subst hp;refine ai ?_;simp(disch:=try exact ac)[jt];exact h1 rfl
 | b::q=>by
  intro p hp h1 h2;have hpl:p.length<mp.length:=by subst hp;simp
  have hb:nth [] mp p.length=b:=by subst hp;simp
  have hbr:=hm b (by subst hp;simp);have ih:=NG ha hal hm hml k h h0 hh q (p++[b]) (by simpa using hp);have hd:=IK a b aa ha hbr.1;simp only[Gj,List.all_cons]at h1 h2 ih;refine ai ?_;simp(disch:=try exact ac)[jt,hb];refine cd (args:=[lst di a,lst di b]) (TP (a:=a) (b:=b) aa aa ha hbr.1) ?_
  simp(disch:=try exact ac);refine cd (qp (n:=0) aa) ?_;simp(disch:=try exact ac);refine cd (K9 (a:=sO a b) (b:=0) (kS aa aa) (kS aa aa)) ?_;by_cases g:sO a b=0
  .rw[show decide (sO a b=0)=true by simpa using g]at h1 h2;simp only[Y9]at h1 h2;have:=ih h1 h2;simp(disch:=try exact ac)[g,hh];simpa using this
  .rw[show decide (sO a b=0)=false by simpa using g]at h2;simp(disch:=try exact ac)[g];simpa using h2
theorem NH{cm mp:LLQ}{n:Nat}(hn:n<=12)(hc:∀r∈cm,gD r=true∧r.length=n)(hm:∀r∈mp,gD r=true∧r.length=n)(hcl:cm.length<=12)(hml:mp.length<=12)(k:KL)(x y:V)(h0:Hp)(hh:h0.length=1):∀(q a:LLQ),a++q=cm->(q.all (fun a=>Gj a mp)=true->k (.exit 2) [] [(1,.vars [x,y,mat mp])])->(q.all (fun a=>Gj a mp)=false->k .ret [B false] [(1,.vars [x,y,mat mp])]) ->
  lp (ju (CX Y) (.ptr 0 1 0 3) (mat cm) (I cm.length)) [] h0 [I a.length] [(1,.vars [x,y,mat mp])] k
 | []=>by
  intro a ha h1 h2;simp at ha;subst ha;refine ai ?_;simp(disch:=try exact ac)[ju];exact h1 rfl
 | b::q=>by
  intro a ha h1 h2;have hal:a.length<cm.length:=by subst ha;simp
  have hb:nth [] cm a.length=b:=by subst ha;simp
  have hbr:=hc b (by subst ha;simp);have ih:=NH hn hc hm hcl hml k x y h0 hh q (a++[b]) (by simpa using ha);simp only[List.all_cons]at h1 h2;refine ai ?_;simp(disch:=try exact ac)[ju,hb];refine lo (NG hbr.1 aa (fun r hr=>⟨(hm r hr).1,by rw[(hm r hr).2,hbr.2]⟩) hml _ _ _ rfl mp [] rfl (fun g=>?_) (fun g=>?_))
  .rw[g]at h1 h2;simp only[Y9]at h1 h2;have:=ih h1 h2;simp(disch:=try exact ac)[hh];simpa using this
  .rw[g]at h2;simp(disch:=try exact ac);simpa using h2
theorem Dw(hp:p.length<1000000000)(hc:cm.length<1000000000∧∀r∈cm,r.length<1000000000)(hm:mp.length<1000000000∧∀r∈mp,r.length<1000000000):CP Y F.gQ [.agg [lst di p,mat cm,mat mp]] (B (Dx p cm mp)):=by
 refine wj ?_;simp(disch:=try exact ac)[gQ];refine cd (GM hp) ?_;by_cases g1:mX p=true
 rotate_left
 .simp(disch:=try exact ac)[g1];exact bL (by simp[Dx,g1])
 have hp6:=wN g1;by_cases g2:cm.length+mp.length=p.length
 rotate_left
 .have g2':¬(cm.length:Int)+(mp.length:Int)=(p.length:Int):=aa;simp(disch:=try exact ac)[g1,g2'];exact bL (by simp[Dx,g2])
 have g2':((cm.length:Int)+(mp.length:Int)=(p.length:Int))=True:=eq_true aa
 have hli:∀H:Hp,fj 2 [nPQ] [(0,mat cm),(1,mat mp)] H=some ([sf cm,sf mp],H):=fun H=>by
  have e1:mat cm=.d (sf cm):=rfl;have e2:mat mp=.d (sf mp):=rfl;rw[e1,e2];simp[fj,fS,hO,toD]
 have hl2:V.d (.sl 2 [sf cm,sf mp])=lst sf [cm,mp]:=rfl;simp(disch:=try exact ac)[g1,g2'];rw[hli];simp(disch:=try exact ac);rw[hl2];simp(disch:=try exact ac);refine lo (NI (n:=p.length) aa (l:=[cm,mp]) (by simp;exact⟨hc,hm⟩) af _ _ _ rfl [cm,mp] [] rfl (fun g=>?_) (fun g=>?_))
 .simp only[List.all_cons,Wl,We,Z8]at g;obtain⟨f1,f2⟩:=g;have f1':=f1;have f2':=f2;simp only[fmB,Z8,Yd,decide_eq_true_eq]at f1 f2;have r1:=C5 f1.1.1 f1.1.2;have r2:=C5 f2.1.1 f2.1.2;simp(disch:=try exact ac)
  refine lo (NH (n:=p.length) aa r1.1 r2.1 r1.2 r2.2 _ _ _ _ rfl cm [] rfl (fun g=>?_) (fun g=>?_))
  .simp(disch:=try exact ac);exact bL (by simp only[Dx,g1,g2,f1',f2',g];simp)
  .simp(disch:=try exact ac);exact bL (by simp only[Dx,g];simp)
 .simp(disch:=try exact ac);refine bL ?_;have e:(fmB p.length cm&&fmB p.length mp)=false:=by simpa[Xv]using g
  simp only[Dx,e];simp
theorem Ia(ha:a.natAbs<1000000000)(hd0:0<d)(hd:d<1000000000):CP Y F.b5 [I a,I d] (txV (frT a d)):=by refine zc ?_;simp(disch:=try exact ac)[b5];refine cd (WC ha hd0 hd) ?_;simp(disch:=try exact ac)[txV];exact pd (by simp[aP,av])
theorem acQ:ndg 1=1:=by unfold ndg;rfl
theorem YX:itoa 1=[49]:=by unfold itoa ag;rw[if_neg aa,show(1:Int).natAbs=1 from rfl,acQ];rfl
theorem aaU:itoa (-1)=[45,49]:=by unfold itoa ag;rw[if_pos aa,show(-1:Int).natAbs=1 from rfl,acQ];rfl
theorem afj:frT 1 1=([49],[49]):=by unfold frT;rw[show(1:Int).tdiv (Nat.gcd (1:Int).natAbs 1:Nat)=1 from rfl,show(((1/Nat.gcd (1:Int).natAbs 1:Nat)):Int)=1 from rfl,YX]
theorem adj:frT (-1) 1=([45,49],[49]):=by unfold frT;rw[show(-1:Int).tdiv (Nat.gcd (-1:Int).natAbs 1:Nat) = -1 from rfl,show(((1/Nat.gcd (-1:Int).natAbs 1:Nat)):Int)=1 from rfl,YX,aaU]
theorem kn1:fq 3 4 [50,53]=true:=b9
theorem kn2:fq 3 4 [50,52]=false:=b9
theorem kn3:tc [2,3] [([45,49],[49]),([49],[49])] 1 0 [(2,0,[49]),(3,0,[49])]=true:=b9
theorem kn4:Im [[2,0],[0,3]] [1,-1] [2,-3]=true:=b9
theorem kn5:Dx [2,3,5] [[4,-4,1]] [[1,0,-4],[0,1,4]]=true:=b9
theorem Ta:CP Y F.fN [] (B true):=by
 refine wJ ?_;have b1:=BI 3 4 [50,53];have b2:=BI 3 4 [50,52];rw[kn1]at b1;rw[kn2]at b2;have o1:=Ia (a:=-1) (d:=1) ae ae ae;have o2:=Ia (a:=1) (d:=1) ae ae ae;rw[adj]at o1;rw[afj]at o2
 have sg:=NM (p:=[2,3]) (s:=[([45,49],[49]),([49],[49])]) (sg:=1) (bits:=0) (bs:=[(2,0,[49]),(3,0,[49])]) af af;rw[kn3]at sg;have mb:=P3 (m:=[[2,0],[0,3]]) (ks:=[1,-1]) (x:=[2,-3]) af af af af af;rw[kn4]at mb;have tp:=Dw (p:=[2,3,5]) (cm:=[[4,-4,1]]) (mp:=[[1,0,-4],[0,1,4]]) af af af;rw[kn5]at tp
 simp(disch:=try exact ac)[fN,fj,fS,hO,toD];refine cd b1 ?_;simp(disch:=try exact ac);refine cd o1 ?_;simp(disch:=try exact ac);refine cd o2 ?_;simp(disch:=try exact ac)[txV,fj,fS,hO,toD];refine cd sg ?_ (by simp[av,aP]);simp(disch:=try exact ac)[fj,fS,hO,toD]
 refine cd mb ?_ (by simp[av,aP]);simp(disch:=try exact ac);refine cd tp ?_ (by simp[av,aP]);simp(disch:=try exact ac);refine cd b2 ?_;simp(disch:=try exact ac)
def sH(b0:Nat×Bk)(zs:LiQ):Hp:=[b0,(1,.data 2 (zs.flatMap wc) false false)]
@[simp]theorem aeN(b0:Nat×Bk)(zs:LiQ):List.length (sH b0 zs)=2:=id rfl
def LM(p b:Int)(l:LuQ):V:=.agg [I p,I b,S l]
@[simp]theorem acj(h:Hp)(p b:Int)(l:LuQ):aP h (LM p b l)=some (LM p b l,h):=rfl
theorem Qp(A:kY){p b:Int}{l:LuQ}(hl:l.length<1000)(b0:0<=b)(b1:b<=64):∃z,CP Y F.fI [LM p b l] (I z)∧(z=0↔fq p b l=true):=by
 have cb:=Fq p b;have bx:∀(q:kkQ)(u:PU q),rh (cJ 0 (LM p b l) [nnQ]) q u=q (.ptr 0 1 0 3) [(1,.vars [I p,I b,S l])]:=fun _ _=>rfl
 cases hp:bw p with
 | false=>
  rw[hp]at cb;simp only[cond_false]at cb;refine⟨25,?_,by simp[fq,hp];split<;>simp⟩;refine m9 ?_;simp[fI,bx];refine cd cb ?_;simp<;>exact cF rfl
 | true=>
  rw[hp]at cb;simp only[cond_true]at cb;rw[if_neg aa]at cb;have hp97:=nX hp;obtain⟨n,rfl⟩:∃n:Nat,p=n:=⟨p.toNat,aa⟩;obtain⟨m,rfl⟩:∃m:Nat,b=m:=⟨b.toNat,aa⟩;obtain⟨N,hN,_,lo⟩:=WS A hp (n:=m) aa;have cw:=BG l aa;cases hr:rd l with
  | none=>
   rw[hr]at cw;refine⟨2,?_,by simp[show fq n m l=false by unfold fq;rw[hr]]⟩;refine m9 ?_;simp[fI,bx];refine cd cb ?_;simp;refine cd cw ?_;simp<;>exact cF rfl
  | some z=>
   rw[hr]at cw;obtain⟨ht,_⟩:=zj hr;have eN:ag N=itoa (N:Int):=by unfold itoa;rw[if_neg aa];rfl
   have iff:l=ag N↔fq n m l=true:=by
    rw[eN];simp only[fq,hr,hp,Int.toNat_natCast,hN];constructor
    .intro e;have:z=N:=KT (ht.symm.trans e);subst this;simp;omega
    .intro e;simp at e;rw[ht];congr 1;omega
   by_cases e:l=ag N
   .refine⟨0,?_,by simp[iff.1 e]⟩;refine m9 ?_;simp[fI,bx];refine cd cb ?_;simp;refine cd cw ?_;simp;refine cd lo ?_;simp[e]<;>exact cF rfl
   ·have eb:fq n m l=false:=by
     cases hh:fq n m l with
     |false=>rfl
     |true=>exact absurd (iff.2 hh) e
    refine⟨23,?_,by simp[eb]⟩;refine m9 ?_;simp[fI,bx];refine cd cb ?_;simp;refine cd cw ?_;simp;refine cd lo ?_;simp[e]<;>exact cF rfl
theorem QC(A:kY){p b:Int}{l:LuQ}(hl:l.length<1000):CP Y F.bV [LM p b l] (B (fq p b l)):=by
 refine r9 ?_;have bx:∀(q:kkQ)(u:PU q),rh (cJ 0 (LM p b l) [nnQ]) q u=q (.ptr 0 1 0 3) [(1,.vars [I p,I b,S l])]:=fun _ _=>rfl
 have l3:ldA [(1,.vars [I p,I b,S l])] 3 (.ptr 0 1 0 3)=some (LM p b l):=rfl;by_cases b0:0<=b
 .by_cases b1:b<=64
  .obtain⟨z,ck,hz⟩:=Qp A (p:=p) hl b0 b1;simp[bV,bx,b0,b1,l3];refine cd ck ?_;simp;exact bL (by rw[Ym];simp[hz])
  .have:fq p b l=false:=by unfold fq;split<;>simp[b1]
   rw[this];simp[bV,bx,b0,b1]
 .have:fq p b l=false:=by unfold fq;split<;>simp[b0]
  rw[this];simp[bV,bx,b0]
theorem J1(h:ndg n<=400):rd (ag n)=some (n:Int):=by
 have e:=D4 (n:Int);have e2:itoa (n:Int)=ag n:=by unfold itoa;rw[if_neg aa];rfl
 rw[e2]at e;have hl:(ag n).length<=400:=by unfold ag;rw[aS];exact h
 unfold rd rdT;rw[if_neg (qO n),if_pos hl,e]
theorem dw(n:Nat):bz n<=ndg n:=
 rE (Z3 (ci n) (W8 (by unfold Z;omega) _))
theorem mD{K:Nat}(h:ndg z.natAbs<=K):bz z.natAbs<=K:=Zs (dw _) h
theorem MO{n:Int}(hd:0<d)(hk:0<k):dV (n*k) (d*k)=dV n d:=by unfold dV;rw[Y3,Int.natAbs_natCast,Nat.gcd_mul_right,Int.natCast_mul,Int.mul_ediv_mul_of_pos_left _ _ aa,Nat.mul_div_mul_right _ _ hk]
theorem Tq(a:Int)(hd:0<d):txV (frT a d)=.agg (qT (dV a d)):=by
 have h1:((Nat.gcd a.natAbs d:Nat):Int)∣a:=Nl (W7 _ _)
 have e:a.tdiv (Nat.gcd a.natAbs d)=a/(Nat.gcd a.natAbs d:Nat):=by
  obtain⟨c,hc⟩:=h1;have g0:((Nat.gcd a.natAbs d:Nat):Int)≠0:=by have:=Yg a.natAbs hd;omega
  generalize((Nat.gcd a.natAbs d:Nat):Int)=g at *;rw[hc,Int.mul_tdiv_cancel_left _ g0,Int.mul_ediv_cancel_left _ g0]
 unfold frT txV qT dV;simp only[e];rw[iC]
theorem zA(hd0:0<d)(ha:bz a.natAbs<10000000)(hd:bz d<10000000):CP Y F.bY [iH a,iH (d:Int)] (.agg (qT (dV a d))):=by
 by_cases hs:a.natAbs<1000000000∧d<1000000000
 .have:=Ov hs.1 hd0 hs.2
  rwa [Tq a hd0]at this
 refine re ?_;have hg0:=Yg a.natAbs hd0;have gle:Nat.gcd a.natAbs d<=d:=Nat.gcd_le_right _ hd0;have sgW:=DO (s:=false) (n:=d) aa;rw[if_neg aa]at sgW;simp only[Zi,if_false]at sgW;have gc:=V7 (s:=decide (a<0)) (t:=false) ha hd
 have gl:bz (Nat.gcd a.natAbs d)<10000000:=by
  have:=rE (n:=Nat.gcd a.natAbs d) (k:=bz d) (Zu gle (mg d));omega
 have dv1:=yJ hg0 ha gl;have dv2:=yJ hg0 hd gl
 have ql:∀n:Nat,bz n<10000000->bz (n/Nat.gcd a.natAbs d)<10000000:=fun n hn=>by
  have:=rE (n:=n/Nat.gcd a.natAbs d) (k:=bz n) (Zu (Y5 _ _) (mg n));omega
 have t1:=Ax (decide (a<0)) (n:=a.natAbs/Nat.gcd a.natAbs d) (by have:=ql _ ha;omega);have f1:=IF (s:=decide (a<0)&&decide (0<a.natAbs/Nat.gcd a.natAbs d)) (n:=a.natAbs/Nat.gcd a.natAbs d) (by have:=ql _ ha;omega) (by intro h;simp[h]);have f2:=IF (s:=false) (n:=d/Nat.gcd a.natAbs d) (by have:=ql _ hd;omega) (by intro h;rfl)
 have e1:(if(decide (a<0)&&decide (0<a.natAbs/Nat.gcd a.natAbs d))=true then 45::ag (a.natAbs/Nat.gcd a.natAbs d)else ag (a.natAbs/Nat.gcd a.natAbs d))=itoa (dV a d).1:=by
  have hdv:Nat.gcd a.natAbs d∣a.natAbs:=W7 _ _;have hdvI:((Nat.gcd a.natAbs d:Nat):Int)∣a:=Nl hdv
  have e3:(a/((Nat.gcd a.natAbs d:Nat):Int)).natAbs=a.natAbs/Nat.gcd a.natAbs d:=by
   rw[Wy hdvI,Int.natAbs_natCast]
  have e4:(a/((Nat.gcd a.natAbs d:Nat):Int)<0)↔(a<0):=by
   constructor
   .intro h;apply Int.not_le.1;intro h2;exact absurd (Int.ediv_nonneg h2 (by omega:(0:Int)<=((Nat.gcd a.natAbs d:Nat):Int))) aa
   .intro h;exact Int.ediv_neg_of_neg_of_pos h aa
  unfold dV itoa;simp only[e3]
  have e5:(decide (a<0)&&decide (0<a.natAbs/Nat.gcd a.natAbs d))=decide (a<0):=by
   by_cases h:a<0
   .have:=Nat.div_pos (V9 aa hdv) hg0;simp[h,this]
   .simp[h]
  rw[e5];by_cases h:a<0
  .rw[if_pos (by simpa using h),if_pos (e4.2 h)]
  .rw[if_neg (by simpa using h),if_neg (fun x=>h (e4.1 x))]
 have e2:(if false=true then 45::ag (d/Nat.gcd a.natAbs d)else ag (d/Nat.gcd a.natAbs d))=ag (dV a d).2:=rfl;rw[e1]at f1;rw[e2]at f2
 have hlen:¬(bz a.natAbs<=1∧bz d=1):=fun h=>hs ⟨by
  have:=mg a.natAbs;have h2:Z^(dig Z a.natAbs).length<=Z^1:=Z6 aU h.1;have h3:Z^1=1000000000:=ae;omega,by
  have:=mg d;have h2:Z^(dig Z d).length=Z^1:=by rw[show(dig Z d).length=1 from h.2]
  have h3:Z^1=1000000000:=ae;omega⟩
 have hdw:iH (d:Int)=wh false d:=by unfold iH;rw[Int.natAbs_natCast,decide_eq_false aa]
 have hla:aj (bu a.natAbs)=some (I (bz a.natAbs)):=rfl;have hld:aj (bu d)=some (I (bz d)):=rfl;rw[hdw];unfold iH;obtain⟨T1,hT1⟩:=nmQ (itoa (dV a d).1);obtain⟨T2,hT2⟩:=nmQ (ag (dV a d).2);rw[<-hT1]at f1;rw[<-hT2]at f2;obtain⟨R,hR⟩:=nmQ (dV a d);rw[<-hR]at hT1 hT2 ⊢;clear e1 e2 hR
 have sn9:∀(h:Hp)(s:Bool)(n:Nat),av h [.agg [.d (.bool s),bu n]]=some ([.agg [.d (.bool s),bu n]],h):=fun h s n=>by simp[av,aP,bu]
 have sn9b:∀(h:Hp)(s t:Bool)(n m:Nat),av h [.agg [.d (.bool s),bu n],.agg [.d (.bool t),bu m]]=some ([.agg [.d (.bool s),bu n],.agg [.d (.bool t),bu m]],h):=fun h s t n m=>by simp[av,aP,bu]
 have sn9c:∀(h:Hp)(n m:Nat),av h [bu n,bu m]=some ([bu n,bu m],h):=fun h n m=>by simp[av,aP,bu]
 generalize decide (a<0)=s9 at *;generalize a.natAbs=an at *;generalize Nat.gcd an d=g at *;generalize an/g=x1 at *;generalize d/g=x2 at *;generalize(s9&&decide (0<x1))=t9 at *;simp(disch:=try exact ac)[bY,wh,zq];refine cd (args:=[wh false d]) sgW ?_ (sn9 _ _ _);simp(disch:=try exact ac);refine aE ?_
 rcases(show(bz an<=1∧¬bz d=1)∨¬bz an<=1 by omega)with⟨c1,c2⟩|c1
 all_goals first|simp(disch:=try exact ac)[hla,hld,c1,c2,zq]|simp(disch:=try exact ac)[hla,hld,c1,zq]
 all_goals refine cd (args:=[wh s9 an,wh false d]) gc ?_ (sn9b _ _ _ _ _)
 all_goals simp(disch:=try exact ac)[wh,zq]
 all_goals refine cd dv1 ?_ (sn9c _ _ _)
 all_goals simp(disch:=try exact ac)
 all_goals refine cd dv2 ?_ (sn9c _ _ _)
 all_goals simp(disch:=try exact ac)[TB]
 all_goals refine cd (args:=[.agg [.d (.bool s9),bu x1]]) t1 ?_ (sn9 _ _ _)
 all_goals simp(disch:=try exact ac)[wh]
 all_goals refine cd (args:=[wh t9 x1]) f1 ?_ (sn9 _ _ _)
 all_goals simp(disch:=try exact ac)[TB]
 all_goals refine cd (args:=[wh false x2]) f2 ?_ (sn9 _ _ _)
 all_goals simp(disch:=try exact ac)[qT]
 all_goals exact ky hT1 hT2
theorem snI(h:Hp)(x:Int):av h [iH x]=some ([iH x],h):=by simp[av,aP,iH,wh,bu]
theorem wB(h:Hp)(x y:Int):av h [iH x,iH y]=some ([iH x,iH y],h):=by simp[av,aP,iH,wh,bu]
theorem HJ{a:Q}{K:Nat}(hl:qL K a)(hK:K<900000000):CP Y F.az [S (itoa a.1)] (iH a.1):=ND (by have:=hl.1;omega)
theorem JD{a:Q}{K:Nat}(hl:qL K a)(hK:K<900000000):CP Y F.az [S (ag a.2)] (iH (a.2:Int)):=by rw[<-iC];exact ND (by rw[Int.natAbs_natCast];have:=hl.2;omega)
theorem Ik{a b:Q}(ha:okQ a)(hb:okQ b)(la:qL 100000 a)(lb:qL 100000 b):CP Y F.fO [.agg (qT a),.agg (qT b)] (.agg (qT (nW a b))):=by
 refine ym ?_;have a1:=HJ la ae;have a2:=JD la ae;have b1:=HJ lb ae;have b2:=JD lb ae;have la1:=la.1;have la2:=la.2;have lb1:=lb.1;have lb2:=lb.2;have n1:=dw a.1.natAbs;have n2:=dw a.2;have n3:=dw b.1.natAbs;have n4:=dw b.2;have m1:=qD (x:=a.1) (y:=b.1) aa aa
 have m2:=qD (x:=(a.2:Int)) (y:=(b.2:Int)) (by rw[Int.natAbs_natCast];omega) (by rw[Int.natAbs_natCast];omega);have e:(a.2:Int)*(b.2:Int)=((a.2*b.2:Nat):Int):=af;rw[e]at m2;have p1:=mD (Zs (eA (z:=a.1) (w:=b.1)) (show _<=200000 by omega))
 have p2:bz (a.2*b.2)<=200000:=by
  have:=eA (z:=(a.2:Int)) (w:=(b.2:Int));rw[e,Int.natAbs_natCast,Int.natAbs_natCast,Int.natAbs_natCast]at this;have:=dw (a.2*b.2);omega
 have mk:=zA (a:=a.1*b.1) (d:=a.2*b.2) (Y4 ha.1 hb.1) aa aa;rw[show dV (a.1*b.1) (a.2*b.2)=nW a b from rfl]at mk;generalize((a.2*b.2:Nat):Int)=D at *;generalize a.1*b.1=N at *;generalize nW a b=R at *;simp(disch:=try exact ac)[fO,qT];refine cd a1 ?_;simp(disch:=try exact ac);refine cd b1 ?_
 simp(disch:=try exact ac);refine cd m1 ?_ (wB _ _ _);simp(disch:=try exact ac);refine cd a2 ?_;simp(disch:=try exact ac);refine cd b2 ?_;simp(disch:=try exact ac);refine cd m2 ?_ (wB _ _ _);simp(disch:=try exact ac);refine cd mk ?_ (wB _ _ _);simp(disch:=try exact ac)[qT]
 exact ky rfl rfl
theorem OS{a b:Q}(ha:okQ a)(hb:0<b.1)(la:qL 100000 a)(lb:qL 100000 b):CP Y F.ic [.agg (qT a),.agg (qT b)] (.agg (qT (J3 a b))):=by
 refine yo ?_;have a1:=HJ la ae;have a2:=JD la ae;have b1:=HJ lb ae;have b2:=JD lb ae;have la1:=la.1;have la2:=la.2;have lb1:=lb.1;have lb2:=lb.2;have n1:=dw a.1.natAbs;have n2:=dw a.2;have n3:=dw b.1.natAbs;have n4:=dw b.2
 have m1:=qD (x:=a.1) (y:=(b.2:Int)) aa (by rw[Int.natAbs_natCast];omega);have m2:=qD (x:=(a.2:Int)) (y:=b.1) (by rw[Int.natAbs_natCast];omega) aa;obtain⟨n,hn⟩:∃n:Nat,b.1=n:=⟨b.1.natAbs,aa⟩;have n0:0<n:=aa;have e:(a.2:Int)*b.1=((a.2*n:Nat):Int):=by rw[hn];simp
 rw[e]at m2;have p1:=mD (Zs (eA (z:=a.1) (w:=(b.2:Int))) (show _<=200000 by rw[Int.natAbs_natCast];omega))
 have p2:bz (a.2*n)<=200000:=by
  have:=eA (z:=(a.2:Int)) (w:=b.1);rw[e,Int.natAbs_natCast,Int.natAbs_natCast]at this;have:=dw (a.2*n);omega
 have mk:=zA (a:=a.1*b.2) (d:=a.2*n) (Y4 ha.1 n0) aa aa
 have eq:dV (a.1*b.2) (a.2*n)=J3 a b:=by
  unfold J3;rw[e,Eg (Y4 ha.1 n0)]
 rw[eq]at mk;clear e eq;generalize((a.2*n:Nat):Int)=D at *;generalize a.1*(b.2:Int)=N at *;generalize J3 a b=R at *;simp(disch:=try exact ac)[ic,qT];refine cd a1 ?_;simp(disch:=try exact ac);refine cd b2 ?_;simp(disch:=try exact ac);refine cd m1 ?_ (wB _ _ _);simp(disch:=try exact ac)
 refine cd a2 ?_;simp(disch:=try exact ac);refine cd b1 ?_;simp(disch:=try exact ac);refine cd m2 ?_ (wB _ _ _);simp(disch:=try exact ac);refine cd mk ?_ (wB _ _ _);simp(disch:=try exact ac)[qT];exact ky rfl rfl
theorem O5{a b:Q}(ha:okQ a)(hb:okQ b)(la:qL 100000 a)(lb:qL 100000 b):CP Y F.fR [.agg (qT a),.agg (qT b)] (.agg (qT (qR a b))):=by
 refine yp ?_;have a1:=HJ la ae;have a2:=JD la ae;have b1:=HJ lb ae;have b2:=JD lb ae;have la1:=la.1;have la2:=la.2;have lb1:=lb.1;have lb2:=lb.2;have n1:=dw a.1.natAbs;have n2:=dw a.2;have n3:=dw b.1.natAbs;have n4:=dw b.2;by_cases hd:a.2=b.2
 .have ab:ndg (a.1+b.1).natAbs<=100001:=jA la1 lb1
  have ab2:bz (a.1.natAbs+b.1.natAbs)<=100001:=by
   have:=jA (z:=(a.1.natAbs:Int)) (w:=(b.1.natAbs:Int)) (k:=100000) (by rw[Int.natAbs_natCast];omega) (by rw[Int.natAbs_natCast];omega);have e:((a.1.natAbs:Int)+(b.1.natAbs:Int)).natAbs=a.1.natAbs+b.1.natAbs:=aa;rw[e]at this;have:=dw (a.1.natAbs+b.1.natAbs);omega
  have ad:=Dg (x:=a.1) (y:=b.1) aa aa aa;have mk:=zA (a:=a.1+b.1) (d:=a.2) ha.1 (by have:=mD ab;omega) aa
  have eq:dV (a.1+b.1) a.2=qR a b:=by
   unfold qR;rw[<-MO (n:=a.1+b.1) ha.1 ha.1,<-hd,Int.add_mul]
  rw[eq]at mk;have hs:(ag a.2 == ag b.2)=true:=by simp[hd]
  clear eq ab ab2;generalize a.1+b.1=N at *;generalize qR a b=R at *;simp(disch:=try exact ac)[fR,qT,hd];refine cd a1 ?_;simp(disch:=try exact ac);refine cd b1 ?_;simp(disch:=try exact ac);refine cd ad ?_ (wB _ _ _);simp(disch:=try exact ac);rw[hd]at a2 mk;refine cd a2 ?_
  simp(disch:=try exact ac);refine cd mk ?_ (wB _ _ _);simp(disch:=try exact ac)[qT];exact ky rfl rfl
 .have m1:=qD (x:=a.1) (y:=(b.2:Int)) aa (by rw[Int.natAbs_natCast];omega);have m2:=qD (x:=b.1) (y:=(a.2:Int)) aa (by rw[Int.natAbs_natCast];omega);have m3:=qD (x:=(a.2:Int)) (y:=(b.2:Int)) (by rw[Int.natAbs_natCast];omega) (by rw[Int.natAbs_natCast];omega);have e:(a.2:Int)*(b.2:Int)=((a.2*b.2:Nat):Int):=af;rw[e]at m3
  have q1:ndg (a.1*(b.2:Int)).natAbs<=200000:=Zs eA (by rw[Int.natAbs_natCast];omega);have q2:ndg (b.1*(a.2:Int)).natAbs<=200000:=Zs eA (by rw[Int.natAbs_natCast];omega)
  have p2:bz (a.2*b.2)<=200000:=by
   have:=eA (z:=(a.2:Int)) (w:=(b.2:Int));rw[e,Int.natAbs_natCast,Int.natAbs_natCast,Int.natAbs_natCast]at this;have:=dw (a.2*b.2);omega
  have mk:=zA (a:=a.1*b.2+b.1*a.2) (d:=a.2*b.2) (Y4 ha.1 hb.1) (by have:=mD (jA q1 q2);omega) aa;rw[show dV (a.1*b.2+b.1*a.2) (a.2*b.2)=qR a b from rfl]at mk;have l1:=mD q1;have l2:=mD q2
  have l3:bz ((a.1*(b.2:Int)).natAbs+(b.1*(a.2:Int)).natAbs)<=200001:=by
   have:=jA (z:=((a.1*(b.2:Int)).natAbs:Int)) (w:=((b.1*(a.2:Int)).natAbs:Int)) (k:=200000) (by rw[Int.natAbs_natCast];omega) (by rw[Int.natAbs_natCast];omega);generalize(a.1*(b.2:Int)).natAbs=x at *;generalize(b.1*(a.2:Int)).natAbs=y at *;have e:((x:Int)+(y:Int)).natAbs=x+y:=aa;rw[e]at this;have:=dw (x+y);omega
  have ad:=Dg (x:=a.1*b.2) (y:=b.1*a.2) aa aa aa;have hs:¬ag a.2=ag b.2:=fun h=>hd (nZ h)
  clear e l1 l2 l3 q1 q2 p2;generalize((a.2*b.2:Nat):Int)=D at *;generalize a.1*(b.2:Int)=N1 at *;generalize b.1*(a.2:Int)=N2 at *;generalize N1+N2=N at *;generalize qR a b=R at *;simp(disch:=try exact ac)[fR,qT,hs];refine cd a1 ?_;simp(disch:=try exact ac);refine cd b2 ?_;simp(disch:=try exact ac)
  refine cd m1 ?_ (wB _ _ _);simp(disch:=try exact ac);refine cd b1 ?_;simp(disch:=try exact ac);refine cd a2 ?_;simp(disch:=try exact ac);refine cd m2 ?_ (wB _ _ _);simp(disch:=try exact ac);refine cd ad ?_ (wB _ _ _);simp(disch:=try exact ac);refine cd a2 ?_
  simp(disch:=try exact ac);refine cd b2 ?_;simp(disch:=try exact ac);refine cd m3 ?_ (wB _ _ _);simp(disch:=try exact ac);refine cd mk ?_ (wB _ _ _);simp(disch:=try exact ac)[qT];exact ky rfl rfl
theorem JN(h:bz z.natAbs<1000000000):CP Y F.bJ [iH z] (I (sgn z)):=by
 have:=DO (s:=decide (z<0)) h
 have e:(if z.natAbs=0 then(0:Int)else if decide (z<0)=true then -1 else 1)=sgn z:=by
  unfold sgn;by_cases h0:z=0
  .simp[h0]
  .rw[if_neg aa,if_neg h0];simp
 rw[e]at this;exact this
theorem Ub(hx:bz x.natAbs<1000000000)(hy:bz y.natAbs<1000000000)(hs:bz (x.natAbs+y.natAbs)<1000000000)(hd:bz (x-y).natAbs<1000000000):CP Y F.ft [iH x,iH y] (I (sgn (x-y))):=by
 refine ua ?_;have s1:=UT hx hy hs;have s2:=JN hd;have sn9b:∀(h:Hp)(s t:Bool)(n m:Nat),av h [.agg [.d (.bool s),bu n],.agg [.d (.bool t),bu m]]=some ([.agg [.d (.bool s),bu n],.agg [.d (.bool t),bu m]],h):=fun h s t n m=>by simp[av,aP,bu]
 unfold iH at s1 s2 ⊢;generalize decide (x<0)=b1 at *;generalize decide (y<0)=b2 at *;generalize decide (x-y<0)=b3 at *;simp(disch:=try exact ac)[ft,wh,zq];refine cd (args:=[wh b1 x.natAbs,wh b2 y.natAbs]) s1 ?_ (sn9b _ _ _ _ _);simp(disch:=try exact ac);refine cd s2 ?_ (by simp[av,aP,wh,bu])
 simp(disch:=try exact ac)
theorem JM{a:Q}{K:Nat}(hl:qL K a)(hK:K<900000000):CP Y F.cY [.agg (qT a)] (I (sgn a.1)):=by refine xQ ?_;have a1:=HJ hl hK;have s1:=JN (z:=a.1) (by have:=mD hl.1;omega);simp(disch:=try exact ac)[cY,qT];refine cd a1 ?_;simp(disch:=try exact ac);refine cd s1 ?_ (snI _ _);simp(disch:=try exact ac)
theorem XL{a b:Q}(la:qL 100000 a)(lb:qL 100000 b):CP Y F.fP [.agg (qT a),.agg (qT b)] (I (sgn (a.1*b.2-b.1*a.2))):=by
 refine uW ?_;have a1:=HJ la ae;have a2:=JD la ae;have b1:=HJ lb ae;have b2:=JD lb ae;have la1:=la.1;have la2:=la.2;have lb1:=lb.1;have lb2:=lb.2;have n1:=dw a.1.natAbs;have n2:=dw a.2;have n3:=dw b.1.natAbs;have n4:=dw b.2
 have m1:=qD (x:=a.1) (y:=(b.2:Int)) aa (by rw[Int.natAbs_natCast];omega);have m2:=qD (x:=b.1) (y:=(a.2:Int)) aa (by rw[Int.natAbs_natCast];omega);have q1:ndg (a.1*(b.2:Int)).natAbs<=200000:=Zs eA (by rw[Int.natAbs_natCast];omega);have q2:ndg (b.1*(a.2:Int)).natAbs<=200000:=Zs eA (by rw[Int.natAbs_natCast];omega)
 have l1:=mD q1;have l2:=mD q2
 have l4:bz (a.1*(b.2:Int)-b.1*(a.2:Int)).natAbs<=200001:=by
  have:=jA (z:=a.1*(b.2:Int)) (w:=-(b.1*(a.2:Int))) q1 (by rw[Wq];exact q2);have:=mD this
  rwa [Int.add_neg_eq_sub]at this
 have l3:bz ((a.1*(b.2:Int)).natAbs+(b.1*(a.2:Int)).natAbs)<=200001:=by
  have:=jA (z:=((a.1*(b.2:Int)).natAbs:Int)) (w:=((b.1*(a.2:Int)).natAbs:Int)) (k:=200000) (by rw[Int.natAbs_natCast];omega) (by rw[Int.natAbs_natCast];omega);generalize(a.1*(b.2:Int)).natAbs=x at *;generalize(b.1*(a.2:Int)).natAbs=y at *;have e:((x:Int)+(y:Int)).natAbs=x+y:=aa;rw[e]at this;have:=dw (x+y);omega
 have cm:=Ub (x:=a.1*b.2) (y:=b.1*a.2) aa aa aa aa;clear l1 l2 l3 l4 q1 q2;generalize a.1*(b.2:Int)=N1 at *;generalize b.1*(a.2:Int)=N2 at *;simp(disch:=try exact ac)[fP,qT];refine cd a1 ?_;simp(disch:=try exact ac);refine cd b2 ?_;simp(disch:=try exact ac)
 refine cd m1 ?_ (wB _ _ _);simp(disch:=try exact ac);refine cd b1 ?_;simp(disch:=try exact ac);refine cd a2 ?_;simp(disch:=try exact ac);refine cd m2 ?_ (wB _ _ _);simp(disch:=try exact ac);refine cd cm ?_ (wB _ _ _);simp(disch:=try exact ac)
def Rep(U:Nat)(q:Q)(r:Int×Nat):Prop:=0<q.2∧0<r.2∧q.1*((r.2:Int)*(U:Int))=r.1*(q.2:Int)
theorem C4{b:Int}(hk:0<k)(h:a*(k:Int)=b*(k:Int)):a=b:=by exact Int.eq_of_mul_eq_mul_right aa h
theorem Rep.sgn{U:Nat}(hU:0<U)(h:Rep U q r):(0<=q.1↔0<=r.1)∧(q.1<=0↔r.1<=0):=by
 obtain⟨h1,h2,h3⟩:=h;have a:(0:Int)<(r.2:Int)*(U:Int):=Wc aa aa;have b:(0:Int)<(q.2:Int):=aa;generalize(r.2:Int)*(U:Int)=x at *;generalize(q.2:Int)=y at *;constructor
 .constructor
  .intro h;have:=Int.mul_nonneg h (Wa a);rw[h3]at this;exact Xi (by simpa using this) b
  .intro h;have:=Int.mul_nonneg h (Wa b);rw[<-h3]at this;exact Xi (by simpa using this) a
 .constructor
  .intro h;have:=Int.mul_le_mul_of_nonneg_right h (Wa a);rw[h3]at this;exact Xi (by simpa using this) b
  .intro h;have:=Int.mul_le_mul_of_nonneg_right h (Wa b);rw[<-h3]at this;exact Xi (by simpa using this) a
theorem Rep.add{U:Nat}{x:Q}{m:Int×Nat}(h1:Rep U q r)(h2:Rep U x m):Rep U (qR q x) (Bg r m):=by
 obtain⟨a1,a2,a3⟩:=h1;obtain⟨b1,b2,b3⟩:=h2;obtain⟨e1,e2⟩:=xB (q.1*x.2+x.1*q.2) (Y4 a1 b1);rw[show dV (q.1*x.2+x.1*q.2) (q.2*x.2)=qR q x from rfl]at e1 e2;rw[Int.natCast_mul]at e1;generalize qR q x=s at *;unfold Bg;split
 .rename_i hd;refine⟨e2,a2,?_⟩;refine C4 (k:=q.2*x.2) (Y4 a1 b1) ?_;simp only[Int.natCast_mul];rw[<-hd]at b3
  grind
 .refine⟨e2,Y4 a2 b2,?_⟩;refine C4 (k:=q.2*x.2) (Y4 a1 b1) ?_;simp only[Int.natCast_mul]
  grind
theorem Rep.mul{U:Nat}(hU:0<U){c:Q}(hc:0<c.2)(t:Nat):Rep U (nW c (dV (t:Int) U)) (c.1*(t:Int),c.2*1):=by
 obtain⟨e1,e2⟩:=xB (t:Int) hU;obtain⟨f1,f2⟩:=xB (c.1*(dV (t:Int) U).1) (Y4 hc e2);rw[show dV (c.1*(dV (t:Int) U).1) (c.2*(dV (t:Int) U).2)=nW c (dV (t:Int) U)from rfl]at f1 f2;rw[Int.natCast_mul]at f1;refine⟨f2,aa,?_⟩;generalize nW c (dV (t:Int) U)=x at *;generalize dV (t:Int) U=y at *;refine C4 (k:=y.2) e2 ?_;simp only[Y0]
 grind
theorem Rep.two{U:Nat}{c:Q}(hc:0<c.2):Rep U c (c.1*(U:Int),c.2*1):=by
 refine⟨hc,aa,?_⟩;simp only[Y0]
 grind
theorem U9{U t:Nat}(hU:0<U){c a b:Q}(hc:0<c.2)(ha:Rep U a (c.1*(t:Int),c.2*1))(hb:Rep U b (c.1*((t+1:Nat):Int),c.2*1)) :
  (b.1*a.2-a.1*b.2)*((c.2:Int)*(U:Int))=c.1*((a.2:Int)*(b.2:Int)):=by
 obtain⟨_,_,a3⟩:=ha;obtain⟨_,_,b3⟩:=hb;simp only[Y0]at a3 b3;have e:((t+1:Nat):Int)=(t:Int)+1:=af;rw[e]at b3
 grind
theorem N4{U t:Nat}(hU:0<U){c a b:Q}(hc:0<c.2)(ha:Rep U a (c.1*(t:Int),c.2*1))(hb:Rep U b (c.1*((t+1:Nat):Int),c.2*1)) :
  (b.1*a.2-a.1*b.2<0↔c.1<0)∧(0<b.1*a.2-a.1*b.2↔0<c.1):=by
 have h:=U9 hU hc ha hb;have x0:(0:Int)<(c.2:Int)*(U:Int):=Wc aa aa;have y0:(0:Int)<(a.2:Int)*(b.2:Int):=Wc (by have:=ha.1;omega) (by have:=hb.1;omega);generalize b.1*(a.2:Int)-a.1*(b.2:Int)=d at *;generalize(c.2:Int)*(U:Int)=x at *;generalize(a.2:Int)*(b.2:Int)=y at *
 have key:∀{z w u v:Int},z*u=w*v->0<u->0<v->(z<0->w<0)∧(0<z->0<w):=by
  intro z w u v e hu hv;constructor
  .intro hz;have:=Xh hz hu;rw[e]at this;apply Int.not_le.1;intro hw;have:=Int.mul_nonneg hw (Wa hv);omega
  .intro hz;have:=Wc hz hu;rw[e]at this;apply Int.not_le.1;intro hw;have:=Int.mul_le_mul_of_nonneg_right hw (Wa hv);omega
 have k1:=key h x0 y0;have k2:=key h.symm y0 x0;exact⟨⟨k1.1,k2.1⟩,⟨k1.2,k2.2⟩⟩
theorem zC:∀{s:List Q},okS s->oK (s.map tx)=some s
 |[],_=>rfl
 | x::q,h=>by
  have hx:=h x af;simp only[Y7,oK];rw[RS hx.1 hx.2,zC (fun y hy=>h y (by simp[hy]))]
theorem Uz{sg n:Int}{a:Nat}{c:Int×Nat}(ha:ndg a<=400):atI sg (x,n,ag a) c=if x≠2∧(decide (c.1<0)=decide (sg=1))then((a+1:Nat):Int)else(a:Int):=by simp[atI,J1 ha]
theorem WL{n:Int}{a:Nat}{c:Q}{sg:Int}(hc:okQ c)(h0:c.1≠0)(h2:x=2->a=2^k)(ha:ndg a<=400)(hsg:sg=1∨sg = -1):
    Rep (2^k) (if sg=1 then Ch (yA x a k c) (yB x a k c)else Ci (yA x a k c) (yB x a k c)) (c.1*atI sg (x,n,ag a) c,c.2*1):=by
  rw[Uz ha];by_cases hx:x=2
  · have e:Ch (yA x a k c) (yB x a k c)=c∧Ci (yA x a k c) (yB x a k c)=c:=by
      unfold yA yB Ch Ci;simp[hx]
    rw[e.1,e.2,ite_self,if_neg (fun h=>h.1 hx),h2 hx];exact Rep.two hc.1
  · have r1:=Rep.mul (U:=2^k) (Zp k) hc.1 a
    have r2:=Rep.mul (U:=2^k) (Zp k) hc.1 (a+1);have e1:yA x a k c=nW c (dV (a:Int) (2^k)):=by unfold yA;rw[if_neg hx]
    have e2:yB x a k c=nW c (dV ((a+1:Nat):Int) (2^k)):=by unfold yB;rw[if_neg hx]
    rw[<-e1]at r1;rw[<-e2]at r2;generalize yA x a k c=lo at *;generalize yB x a k c=hi at *;obtain⟨k1,k2⟩:=N4 (Zp k) hc.1 r1 r2;unfold Ch Ci;rcases hsg with rfl|rfl
    · rw[if_pos rfl]
      by_cases h:c.1<0
      · rw[if_pos (k1.2 h),if_pos ⟨hx,by simp[h]⟩];exact r2
      · rw[if_neg (fun e=>h (k1.1 e)),if_neg (fun e=>by simp[h]at e)];exact r1
    · rw[if_neg ae]
      by_cases h:0<c.1
      · rw[if_pos (k2.2 h),if_pos ⟨hx,ak⟩];exact r2
      · rw [if_neg (fun e => h (k2.1 e)), if_neg (fun e => by have:c.1<0:=by omega
                                                              simp[this]at e)];exact r1
theorem Ut(hx:bw x=true)(hM:jm M)(hn:n<=M)(hn2:n<=64)(ha:ndg (qa x M/2^(M-n))<=400):bdB (x,(n:Int),ag (qa x M/2^(M-n)))=true:=by have hl:=VL hx hM hn hn2;generalize qa x M/2^(M-n)=a at *;unfold bdB fq;rw[J1 ha];simp only[hx,Int.toNat_natCast,hl];simp;omega
set_option exponentiation.threshold 5000 in
theorem Oo(h:ndg (qa x M)<=400):ndg (qa x M/2^(M-n))<=400:=by have h1:=ci (qa x M);have h2:(10:Nat)^ndg (qa x M)<=10^400:=Z6 ae h;refine cg (d:=400) ?_ ae;have:=Y5 (qa x M) (2^(M-n));omega
theorem SH(hn:n<=M):qa 2 M/2^(M-n)=2^n:=by unfold qa;rw[if_pos rfl,Nat.pow_div aa ae,show M-(M-n)=n by omega]
theorem NN(A:kY){p:LiQ}{s:List Q}{M n:Nat}{sg:Int}(hp:∀x∈p,bw x=true)(hs:okS s)(hM:jm M)(hn:n<=M)(hn2:n<=64)(hsg:sg=1∨sg = -1) :
  ∀(q:List Q)(r:LiQ)(cs:List Q)(ps:LiQ),cs++q=s->ps++r=p->ps.length=cs.length->r.length=q.length->∀(e:Q×Q)(t:Int×Nat),Rep (2^n) (if sg=1 then e.1 else e.2) t ->
  ∃ t',o9 p s sg n (iB cs.length q) (mG M n r q) t=some t' ∧
   Rep (2^n) (if sg=1 then(w9 p (fun i=>qa (nth 0 p i) M/2^(M-n)) n cs.length q e).1 else(w9 p (fun i=>qa (nth 0 p i) M/2^(M-n)) n cs.length q e).2) t'
 | [],r,cs,ps,hc,hr,hl,hrq,e,t,h=>by
  have:r=[]:=Yv.1 hrq;subst this;exact⟨t,rfl,h⟩
 |c::q,[],cs,ps,hc,hr,hl,hrq,e,t,h=>by simp at hrq
 | c::q,x::r,cs,ps,hc,hr,hl,hrq,e,t,h=>by
  have ih:=NN A hp hs hM hn hn2 hsg q r (cs++[c]) (ps++[x]) (by simpa using hc) (by simpa using hr) (by simp[hl]) (by simpa using hrq);simp only[Zo,List.length_singleton]at ih;have hcn:nth (0,1) s cs.length=c:=by rw[<-hc,mf]
  have hcn0:nth (0,0) s cs.length=c:=by rw[<-hc,mf]
  have hpn:nth 0 p cs.length=x:=by rw[<-hr,<-hl,mf]
  have hpx:=hp x (by rw[<-hr];simp);have hcs:=hs c (by rw[<-hc];simp);simp only[iB,mG,w9];by_cases hz:c.1=0
  .rw[if_pos hz,if_pos hz,if_pos hz];exact ih e t h
  .rw[if_neg hz,if_neg hz,if_neg hz];have ha:=Oo (n:=n) (xa A hpx hM).2;have hb:=Ut hpx hM hn hn2 ha;have xr:=WL (x:=x) (n:=n) (a:=qa x M/2^(M-n)) (k:=n) hcs.1 hz (fun e=>by rw[e];exact SH hn) ha hsg;simp only[o9,Int.toNat_natCast,hcn0];rw[if_pos ⟨hpn.symm,trivial,hb⟩];refine ih _ _ ?_;rw[hpn];have:=Rep.add h xr;rcases hsg with rfl|rfl
   .simpa using this
   .simpa using this
theorem Od(M n:Nat):∀(p:LiQ)(s:List Q)(i:Nat),p.length=s.length->(mG M n p s).length=(iB i s).length
 |[],[],i,_=>rfl
 | _::p,c::s,i,h=>by
  have:=Od M n p s (i+1) (by simpa using h);simp only[mG,iB];split<;>simp[this]
theorem Ke:∀(s:List Q)(i:Nat),(s.all fun a=>decide (a.1=0))=false->(iB i s).length≠0
 |[],i,h=>by simp at h
 | c::s,i,h=>by
  simp only[iB];by_cases hz:c.1=0
  .rw[if_pos hz];exact Ke s (i+1) (by simpa[hz]using h)
  .rw[if_neg hz];simp
theorem PD(A:kY){p:LiQ}{s:List Q}{M n:Nat}(hp:∀x∈p,bw x=true)(hs:okS s)(hps:p.length=s.length)(hM:jm M)(hn:n<=M)(hn2:n<=64)(hsz:r8 p (s.map tx)=true)
  (hz:(s.all fun a=>decide (a.1=0))=false) (ht:tX p s M n=true):tc p (s.map tx) (AJ (jg p s M n).1 (jg p s M n).2) n (mG M n p s)=true:=by
 have ht:AJ (jg p s M n).1 (jg p s M n).2≠0:=by simpa[tX]using ht
 obtain⟨sg,hsgd⟩:=nmQ (AJ (jg p s M n).1 (jg p s M n).2);rw[<-hsgd]at ht ⊢
 have hsg:sg=1∨sg = -1:=by
  unfold AJ at hsgd;split at hsgd
  .exact .inl hsgd
  .split at hsgd
   .exact .inr hsgd
   .exact absurd hsgd ht
 obtain ⟨t,h1,h2⟩:=NN A hp hs hM hn hn2 hsg s p [] [] rfl rfl rfl hps ((0,1),(0,1)) (0,1) (by
  simp only[ite_self];exact⟨ae,ae,af⟩)
 have ol:=Ke s 0 hz;have bl:=Od M n p s 0 hps;unfold tc tb;rw[if_pos hsz,zC hs];simp only[Option.getD_some];rw[if_neg aa,if_neg aa];have h1:o9 p s sg n (iB 0 s) (mG M n p s) (0,1)=some t:=h1;rw[h1];have h2:Rep (2^n) (if sg=1 then(jg p s M n).1 else(jg p s M n).2) t:=h2;obtain⟨g1,g2⟩:=h2.sgn (Zp n);unfold AJ at hsgd
 rcases hsg with rfl|rfl
 .rw[if_pos rfl]at g1;split at hsgd
  .rename_i h;have:=g1.1 h;simp;omega
  .split at hsgd<;>omega
 .rw[if_neg ae]at g2;split at hsgd
  .omega
  .split at hsgd
   .rename_i h;have:=g2.1 h;simp;omega
   .omega
theorem SG(z:Int):dV z 1=(z,1):=Eh af
theorem Oh(ha:a.natAbs<1000000000):CP Y F.b5 [I a,I 1] (.agg (qT (a,1))):=by
 have:=Ia (a:=a) (d:=1) ha ae ae
 rwa [Tq a ae,SG]at this
abbrev pwH(x:Q):Hp:=[(1,.vars [.d (.str []),.d (.str [])]),(1,.vars (qT x))]
theorem Sd{n:Nat}(hn:n<=64)(K:KL)(h0:Hp)(hh:h0.length=2)(hK:K (.exit 0) [] (pwH (((2^n:Nat):Int),1))):∀(k i:Nat),i+k=n ->
  lp (jY (CX Y) (.ptr 1 1 0 2) (I n)) [] h0 [I i] (pwH (((2^i:Nat):Int),1)) K
 | 0,i,hi=>by
  obtain rfl:i=n:=aa;refine ai ?_;simp(disch:=try exact ac)[jY];exact hK
 | k+1,i,hi=>by
  have ih:=Sd hn K h0 hh hK k (i+1) aa;have g:(i:Int)<n:=aa;have n2:=Ef (m:=i) aa;have ok1:okQ (((2^i:Nat):Int),1):=⟨af,af⟩;have ok2:okQ ((2:Int),1):=⟨ae,ae⟩;have nd1:ndg 1<=1:=cg ae ae;have nd2:ndg 2<=1:=cg ae ae
  have m:=Ik ok1 ok2 ⟨by show ndg ((2^i:Nat):Int).natAbs<=_;rw[Int.natAbs_natCast];omega,by show ndg 1<=_;omega⟩ ⟨by show ndg 2<=_;omega,by show ndg 1<=_;omega⟩
  have e:nW (((2^i:Nat):Int),1) (2,1)=(((2^(i+1):Nat):Int),1):=by
   unfold nW;rw[Nat.pow_succ,Int.natCast_mul];exact SG _
  rw[e]at m;have o2:=Oh (a:=2) ae;have e5:((i+1:Nat):Int)=(i:Int)+1:=af;rw[e5]at ih;generalize(((2^i:Nat):Int),1)=x at *;generalize(((2^(i+1):Nat):Int),1)=y at *;refine ai ?_;simp(disch:=try exact ac)[jY,g,qT];refine cd o2 ?_;simp(disch:=try exact ac);refine cd (args:=[.agg (qT x),.agg (qT (2,1))]) m ?_ (by rfl)
  simp(disch:=try exact ac)[qT];exact ih
theorem Se(hn:n<=64):CP Y F.ig [I n] (.agg (qT (((2^n:Nat):Int),1))):=by refine wH ?_;obtain⟨x,hx⟩:∃x:Q,x=(((2^n:Nat):Int),1):=⟨_,rfl⟩;rw[<-hx];have o1:=Oh (a:=1) ae;simp(disch:=try exact ac)[ig];refine cd o1 ?_;simp(disch:=try exact ac)[qT];refine lo (Sd hn _ _ rfl ?_ n 0 aa);rw[<-hx];simp(disch:=try exact ac)[qT];exact ky rfl rfl
theorem Rep.mul'{U:Nat}{c y:Q}(hc:0<c.2)(h:Rep U y (t,1)):Rep U (nW c y) (c.1*t,c.2*1):=by
 obtain⟨h1,h2,h3⟩:=h;obtain⟨f1,f2⟩:=xB (c.1*y.1) (Y4 hc h1);rw[show dV (c.1*y.1) (c.2*y.2)=nW c y from rfl]at f1 f2;rw[Int.natCast_mul]at f1;refine⟨f2,aa,?_⟩;generalize nW c y=x at *;refine C4 (k:=y.2) h1 ?_;simp only[Y0]
 grind
theorem R3{c:Q}(hc:okQ c):nW c (1,1)=c:=by unfold nW;simp only[Int.mul_one,Y0];exact Eh hc.2
def pk(sg:Int)(x y:Q):Q:=if decide (0<sgn (x.1*y.2-y.1*x.2))=decide (0<sg)then y else x
theorem Vi{pi n sg:Int}{a k:Nat}{c lo hi:Q}(hc:okQ c)(h0:c.1≠0)(h2:pi=2->a=2^k)(ha:ndg a<=400)(hsg:sg=1∨sg = -1)(r1:Rep (2^k) lo ((a:Int),1))(r2:Rep (2^k) hi (((a+1:Nat):Int),1)) :
  Rep (2^k) (pk sg (nW c (if pi=2 then(1,1)else lo)) (nW c (if pi=2 then(1,1)else hi))) (c.1*atI sg (pi,n,ag a) c,c.2*1):=by
 rw[Uz ha];by_cases hx:pi=2
 .rw[if_pos hx,if_pos hx,R3 hc];have e:pk sg c c=c:=by unfold pk;exact ite_self _
  rw[e,if_neg (fun h=>h.1 hx),h2 hx];exact Rep.two hc.1
 .rw[if_neg hx,if_neg hx];have m1:=Rep.mul' hc.1 r1;have m2:=Rep.mul' hc.1 r2;generalize nW c lo=x at *;generalize nW c hi=y at *;obtain⟨k1,k2⟩:=N4 (Zp k) hc.1 m1 m2;unfold pk
  have e:0<sgn (x.1*y.2-y.1*x.2)↔c.1<0:=by
   rw[Mo,<-k1];omega
  rcases hsg with rfl|rfl
  .by_cases h:c.1<0
   .rw[if_pos (by simp[e,h]),if_pos ⟨hx,by simp[h]⟩];exact m2
   .rw[if_neg (by simp[e,h]),if_neg (fun e=>by simp[h]at e)];exact m1
  .by_cases h:c.1<0
   .rw[if_neg (by simp[e,h]),if_neg (fun e=>by simp[h]at e)];exact m1
   .rw[if_pos (by simp[e,h]),if_pos ⟨hx,by simp[h]⟩];exact m2
theorem YD{b:Bd}(hb:b.2.1=n)(h:bdB b=true):∃a:Nat,b.2.2=ag a∧ndg a<=400∧bw b.1=true∧n<=64∧wX b.1.toNat n 160=some a:=by
 unfold bdB fq at h;cases hr:rd b.2.2 with
 |none=>rw[hr]at h;cases h
 | some z=>
  rw[hr]at h;simp only[Z8,decide_eq_true_eq,beq_iff_eq,hb,Int.toNat_natCast]at h;obtain⟨⟨⟨⟨h1,h2⟩,_⟩,h4⟩,h5⟩:=h;obtain⟨t1,t2,_⟩:=RR hr;refine⟨z.toNat,?_,?_,h2,aa,h5⟩
  .rw[t1];have:z=(z.toNat:Int):=aa;rw[this,iC,Int.toNat_natCast]
  .have:z.natAbs=z.toNat:=aa
   rwa [this]at t2
theorem KE{a:Nat}(hn:n<=64)(h:wX (2:Int).toNat n 160=some a):a=2^n:=by have:=Ir ⟨n,aa⟩;have h:wX 2 n 160=some a:=h;rw[this]at h;exact(Option.some.inj h).symm
abbrev cmV(sg n:Int)(bs:List Bd):V:=.agg [I sg,I n,gR cD bs]
abbrev Vj(sg n:Int)(bs:List Bd)(L:Nat)(cells:LdQ):Hp:=[(1,.vars [I sg,I n,gR cD bs]),nnQ,snA.b L cells,nnQ,nnQ,nnQ,nnQ,nnQ,nnQ,nnQ]
theorem Kk(L:Nat)(c:LdQ):pL [1] (snA.v L c)=true:=by cases L<;>rfl
theorem Kn(L:Nat)(c:LdQ):offB [1] (snA.b L c).2=true:=by cases L<;>rfl
theorem R8{s:List Q}(hs:okS s)(hN:s.length<=8)(sg n:Int)(bs:List Bd)(K:KL)(h0:Hp)(hh:h0=Vj sg n bs 0 []):∀(q a:List Q)(d:LiQ),a++q=s->d.length<=a.length ->
  K (.exit 0) [snA.v (d++iB a.length q).length ((d++iB a.length q).map di)] (Vj sg n bs (d++iB a.length q).length ((d++iB a.length q).map di)) ->
  lp (gC (CX Y) (szV s) (I s.length)) [1] h0 [snA.v d.length (d.map di),I a.length] (Vj sg n bs d.length (d.map di)) K
 | [],a,d,ha,hd,hK=>by
  have e:a=s:=by simpa using ha
  subst e;refine ai ?_;simp(disch:=try exact ac)[gC];simpa[iB]using hK
 | c::q,a,d,ha,hd,hK=>by
  have hal:s.length=a.length+(q.length+1):=by rw[<-ha];simp
  have ih:=R8 hs hN sg n bs K h0 hh q (a++[c]);have hcs:=hs c (by rw[<-ha];simp)
  have e1:∀h:Hp,ixV h 2 (szV s) (I a.length)=some (.dptr ((s.map tx).flatMap fi) (a.length*2)):=fun h=>by
   have:=m6 fi fT (s.map tx) h (k:=.i64) (i:=(a.length:Int)) aa ak;simpa[szV]using this
  have e2:∀h:Hp,ldA h 2 (.dptr ((s.map tx).flatMap fi) (a.length*2))=some (.agg (qT c)):=fun h=>by
   rw[m5 fi fT ([],[]) (s.map tx) h ak];have:nth ([],[]) (s.map tx) a.length=tx c:=by rw[<-ha];simp[nth]
   rw[this];rfl
  have g:(a.length:Int)<s.length:=aa;have sg':=JM (a:=c) hcs.2 ae;have e5:((a++[c]).length:Int)=(a.length:Int)+1:=af;rw[e5,Zo,List.length_singleton]at ih;subst hh;simp only[iB]at hK;refine ai ?_;by_cases hz:c.1=0
  .rw[if_pos hz]at hK;have ih:=ih d (by simpa using ha) aa hK;have of1:=Kk d.length (d.map di);have of2:=Kn d.length (d.map di);simp only[offB]at of2;have sz:=y9.2 hz;rw[sz]at sg';simp(disch:=try exact ac)[gC,g,e1,e2,qT];refine aE ?_;simp(disch:=try exact ac)[e1,e2,qT]
   refine cd (args:=[.agg (qT c)]) sg' ?_ (by rfl);simp(disch:=try exact ac);refine aE ?_;simp(disch:=try exact ac)[clean,iN,jf,fU,oJ,offB,of1,of2,ew,iM,gN,dP,beq_lit];exact⟨rfl,ih⟩
  .rw[if_neg hz]at hK;have ih:=ih (d++[(a.length:Int)]) (by simpa using ha) ak (by simpa using hK);have sz:¬sgn c.1=0:=fun e=>hz (y9.1 e)
   have hli:∀H:Hp,fj 1 [D.int IntKind.i64 0] [(0,I (a.length:Int))] H=some ([di a.length],H):=fun H=>by
    simp[fj,fS,hO,toD,di]
   have of1:=Kk (d.length+1) (d.map di++[di a.length]);have of2:=Kn (d.length+1) (d.map di++[di a.length]);simp only[offB]at of2;simp(disch:=try exact ac)[gC,g,e1,e2,qT];refine aE ?_;simp(disch:=try exact ac)[e1,e2,qT];refine cd (args:=[.agg (qT c)]) sg' ?_ (by rfl);simp(disch:=try exact ac)[sz]
   refine aE ?_;simp(disch:=try exact ac)[hli];refine rI snA (k:=1) (cs:=[di a.length]) aa (by rfl) (by simp[snA]) rfl rfl af aa (by simp[snA]) ?_;simp only[show snA.s=2 from rfl];simp only[Zo,List.length_singleton,List.map_append,Y7,List.map_nil,Vj]at ih ⊢
   generalize snA.v (d.length+1) (d.map di++[di a.length])=vv at *;generalize snA.b (d.length+1) (d.map di++[di a.length])=bb at *;simp(disch:=try exact ac)[clean,iN,jf,fU,oJ,offB,of1,of2,ew,iM,gN,dP,beq_lit];exact⟨rfl,ih⟩
abbrev pvH(sg n:Int)(bs:List Bd)(own:LiQ)(u sum:Q):Hp:=[(1,.vars [I sg,I n,gR cD bs]),nnQ,(1,.data 1 (own.map di) false false),(1,.vars (qT sum)),(1,.vars (qT u)),nnQ,nnQ,nnQ,nnQ,nnQ]
theorem VB{α:Type}(x y:α)(l:List α)(h:i<l.length):nth x l i=nth y l i:=by rw[gj x l i h,gj y l i h]
theorem R7(A:kY){p:LiQ}{s:List Q}{sg:Int}{n:Nat}{bs:List Bd}{own:LiQ}{u:Q}(hu:u=(((2^n:Nat):Int),1))(hs:okS s)(hps:p.length=s.length)(hN:s.length<=8)(hsg:sg=1∨sg = -1)(hn:n<=64)(hob:bs.length=own.length)(hol:own.length<=8)
  (ho:∀o∈own,0<=o∧o<s.length∧(nth (0,1) s o.toNat).1≠0) (hbl:∀b∈bs,b.2.2.length<1000) (K:KL) (h0:Hp) (hh:h0=pvH sg n bs own u (0,1)):∀(q a:List Bd)(oq oa:LiQ)(sum:Q)(r:Int×Nat),a++q=bs->oa++oq=own->oa.length=a.length ->
  okR sum (900*a.length+1)->Rep (2^n) sum r ->
  (∀r' q',o9 p s sg n oq q r=some r'->Rep (2^n) q' r'->okR q' 9000->K (.exit 2) [] (pvH sg n bs own u q'))->(o9 p s sg n oq q r=none->∀h,K .ret [B false] h) ->
  lp (eJ (CX Y) (lst di p) (szV s) (.ptr 0 1 0 3) (.ptr 3 1 0 2) (.ptr 4 1 0 2) (.ref 2 1 0 own.length own.length own.length) (I own.length)) [5,6,7,8,9] h0 [I a.length] (pvH sg n bs own u sum) K
 | [],a,oq,oa,sum,r,ha,hoa,hla,rs,hr,h1,h2=>by
  have ea:a=bs:=by simpa using ha
  subst ea;refine ai ?_;simp(disch:=try exact ac)[eJ,hob]
  have:oq=[]:=by
   have:=congrArg List.length hoa;simp at this;exact Yv.1 aa
  subst this;exact h1 r sum rfl hr (lm rs aa)
 | b::q,a,[],oa,sum,r,ha,hoa,hla,rs,hr,h1,h2=>by
  exfalso;have e1:=congrArg List.length ha;have e2:=congrArg List.length hoa;simp at e1 e2;omega
 | b::q,a,o::oq,oa,sum,r,ha,hoa,hla,rs,hr,h1,h2=>by
  have hal:bs.length=a.length+(q.length+1):=by rw[<-ha];simp
  have halo:a.length<own.length:=aa;have hb:nth (0,0,[]) bs a.length=b:=by rw[<-ha,mf]
  have hno:nth 0 own a.length=o:=by rw[<-hoa,<-hla,mf]
  obtain⟨oo1,oo2,oo3⟩:=ho o (by rw[<-hoa];simp);have hbm:=hbl b (by rw[<-ha];simp);obtain⟨i,hi⟩:∃i:Nat,o=i:=⟨o.toNat,aa⟩;subst hi;rw[Int.toNat_natCast]at oo3;obtain⟨c,hc⟩:=nmQ (nth (0,1) s i);rw[<-hc]at oo3;have hcs:=hs c (by rw[hc];exact iO aa);have rc:okR c 30:=hcs;have hc0:nth (0,0) s i=c:=by rw[hc];exact VB _ _ _ aa
  obtain⟨pi,hpi⟩:=nmQ (nth 0 p i);have e1:∀h:Hp,ixV h 3 (gR cD bs) (I a.length)=some (.dptr (bs.flatMap cD) (a.length*3)):=fun h=>m6 cD nO bs h (k:=.i64) (i:=(a.length:Int)) aa aa
  have e2:∀h:Hp,ldA h 3 (.dptr (bs.flatMap cD) (a.length*3))=some (.agg [I b.1,I b.2.1,S b.2.2]):=fun h=>by
   rw[m5 cD nO (0,0,[]) bs h (j:=a.length) aa,hb];rfl
  have eO:∀(x y:Nat×Bk)(r:Hp),ixV (x::y::(1,.data 1 (own.map di) false false)::r) 1 (.ref 2 1 0 own.length own.length own.length) (.d (.int .i64 (a.length:Int)))=some (.ptr 2 1 a.length own.length):=fun x y r=>ixB rfl rfl halo _
  have eOl:∀(x y:Nat×Bk)(r:Hp),ld1 (x::y::(1,.data 1 (own.map di) false false)::r) (.ptr 2 1 a.length own.length)=some (I i):=fun x y r=>by
   have:ld1 (x::y::(1,.data 1 (own.map di) false false)::r) (.ptr 2 1 a.length own.length)=some (.d (di (nth 0 own a.length))):=ldB 0 rfl rfl halo;rw[this,hno];rfl
  have f1:∀h:Hp,ixV h 2 (szV s) (I i)=some (.dptr ((s.map tx).flatMap fi) (i*2)):=fun h=>by
   have:=m6 fi fT (s.map tx) h (k:=.i64) (i:=(i:Int)) aa ak;simpa[szV]using this
  have f2:∀h:Hp,ldA h 2 (.dptr ((s.map tx).flatMap fi) (i*2))=some (.agg (qT c)):=fun h=>by
   rw[m5 fi fT ([],[]) (s.map tx) h ak]
   have:nth ([],[]) (s.map tx) i=tx c:=by
    rw[hc,gj _ _ _ ak,gj _ _ _ aa];simp
   rw[this];rfl
  have i1:∀H:Hp,ixV H 1 (lst di p) (I i)=some (.dptr (p.map di) i):=fun H=>jL di _ H rfl aa
  have i2:∀H:Hp,ld1 H (.dptr (p.map di) i)=some (I pi):=fun H=>by rw[lC di 0 p H aa,<-hpi];rfl
  have g:(a.length:Int)<own.length:=aa;have e5:((a++[b]).length:Int)=(a.length:Int)+1:=af;have br:=QC A (p:=b.1) (b:=b.2.1) (l:=b.2.2) hbm;simp only[o9,Int.toNat_natCast,<-hpi,hc0]at h1 h2;have ih:=R7 A hu hs hps hN hsg hn hob hol ho hbl K h0 hh q (a++[b]) oq (oa++[(i:Int)]);refine ai ?_;subst hh;by_cases g1:b.1=pi
  rotate_left
  .have:=h2 (by rw[if_neg (fun h=>g1 h.1)]);simp(disch:=try exact ac)[eJ,g,e1,e2,eO,eOl,i1,i2,g1];exact this _
  by_cases g2:b.2.1=n
  rotate_left
  .have:=h2 (by rw[if_neg (fun h=>g2 h.2.1)]);simp(disch:=try exact ac)[eJ,g,e1,e2,eO,eOl,i1,i2,g1,g2];exact this _
  have hg1:=eq_true g1;have hg2:=eq_true g2;simp(disch:=try exact ac)[eJ,g,e1,e2,eO,eOl,i1,i2,hg1,hg2];refine cd (args:=[LM b.1 b.2.1 b.2.2]) br ?_ (by rfl);by_cases g3:bdB b=true
  rotate_left
  .have:=h2 (by rw[if_neg (fun h=>g3 h.2.2)]);have g3':¬fq b.1 b.2.1 b.2.2=true:=g3;simp(disch:=try exact ac)[g3'];exact this _
  have g3':fq b.1 b.2.1 b.2.2=true:=g3;rw[if_pos ⟨g1,g2,g3⟩]at h1 h2;obtain⟨t,ht,hnd,hpr,hn64,hlog⟩:=YD g2 g3;have nd1:ndg 1<=1:=cg ae ae;have n2:=Ef (m:=n) aa;have ok1:okR ((1:Int),1) 1:=⟨⟨ae,ae⟩,nd1,nd1⟩;have okt:okR ((t:Int),1) 400:=⟨⟨af,af⟩,by show ndg (t:Int).natAbs<=_;rw[Int.natAbs_natCast];omega,by show ndg 1<=_;omega⟩
  have oku:okR u 400:=by
   rw[hu];exact⟨⟨af,af⟩,by show ndg ((2^n:Nat):Int).natAbs<=_;rw[Int.natAbs_natCast];omega,by show ndg 1<=_;omega⟩
  have upos:0<u.1:=by
   rw[hu];have:=Zp n
   show(0:Int)<((2^n:Nat):Int)
   omega
  have eqd:∀z:Nat,J3 ((z:Int),1) u=dV (z:Int) (2^n):=fun z=>by
   rw[hu];unfold J3
   show KD ((z:Int)*((1:Nat):Int)) (((1:Nat):Int)*((2^n:Nat):Int))=_
   rw[show((1:Nat):Int)=1 from rfl,Int.mul_one,Int.one_mul];exact Eg (Zp n)
  have d1:=OS okt.1 upos (okt.2.mono ae) (oku.2.mono ae);have d2:=OS ok1.1 upos (ok1.2.mono ae) (oku.2.mono ae);rw[eqd t]at d1;rw[show J3 ((1:Int),1) u=dV ((1:Nat):Int) (2^n)from eqd 1]at d2;have r1:okR (dV (t:Int) (2^n)) 401:=AX aa aa;have r2:okR (dV ((1:Nat):Int) (2^n)) 401:=AX aa aa
  have p1:Rep (2^n) (dV (t:Int) (2^n)) ((t:Int),1):=by
   obtain⟨x1,x2⟩:=xB (t:Int) (Zp n);exact⟨x2,Nat.one_pos,by simpa using x1⟩
  have p2:Rep (2^n) (dV ((1:Nat):Int) (2^n)) ((1:Int),1):=by
   obtain⟨x1,x2⟩:=xB ((1:Nat):Int) (Zp n);exact⟨x2,Nat.one_pos,by simpa using x1⟩
  have p3:=Rep.add p1 p2;rw[show Bg ((t:Int),1) ((1:Int),1)=(((t+1:Nat):Int),1) by simp[Bg]]at p3;have ad:=O5 r1.1 r2.1 (r1.2.mono ae) (r2.2.mono ae);have r3:=CU r1 r2
  have eqT:qT ((t:Int),1)=[S b.2.2,S [49]]:=by
   show[S (itoa t),S (ag 1)]=_
   rw[iC,ht,show ag 1=[49] by decide+kernel]
  rw[eqT]at d1;have o1:=Oh (a:=1) ae
  have pr:=Vi (pi:=pi) (n:=n) (a:=t) (k:=n) (c:=c) (sg:=sg) hcs.1 oo3 (fun e=>by
   rw[<-g1]at e;rw[e]at hlog;exact KE hn hlog) hnd hsg p1 p3
  have eb:b=(pi,(n:Int),ag t):=by rw[<-g1,<-g2,<-ht]
  rw[<-eb]at pr;generalize dV (t:Int) (2^n)=lo1 at *;generalize dV ((1:Nat):Int) (2^n)=inv at *;obtain⟨hi1,hhi⟩:=nmQ (qR lo1 inv);rw[<-hhi]at ad r3 pr;obtain⟨lw,hlw⟩:∃lw:Q,lw=if pi=2 then(1,1)else lo1:=⟨_,rfl⟩
  obtain⟨hw,hhw⟩:∃hw:Q,hw=if pi=2 then(1,1)else hi1:=⟨_,rfl⟩
  rw[<-hlw,<-hhw]at pr
  have rl:okR lw 803:=by
   rw[hlw];split
   .exact lm ok1 ae
   .exact lm r1 ae
  have rh:okR hw 803:=by
   rw[hhw];split
   .exact lm ok1 ae
   .exact lm r3 ae
  have m1:=Ik rc.1 rl.1 (rc.2.mono ae) (rl.2.mono ae);have m2:=Ik rc.1 rh.1 (rc.2.mono ae) (rh.2.mono ae);have x1:=CS rc rl;have y1:=CS rc rh;generalize nW c lw=x at *;generalize nW c hw=y at *;have cm:=XL (x1.2.mono (show _<=100000 by decide)) (y1.2.mono (show _<=100000 by decide));simp(disch:=try exact ac)[g3',qT]
  refine cd (args:=[.agg [S b.2.2,S [49]],.agg (qT u)]) d1 ?_ (by rfl);simp(disch:=try exact ac)[qT];refine cd o1 ?_;simp(disch:=try exact ac);refine cd (args:=[.agg (qT (1,1)),.agg (qT u)]) d2 ?_ (by rfl);simp(disch:=try exact ac);refine cd (args:=[.agg (qT lo1),.agg (qT inv)]) ad ?_ (by rfl)
  simp(disch:=try exact ac)[qT,i1,i2];refine Tg (l:=[]) (P:=fun h=>h=[(1,.vars [I sg,I n,gR cD bs]),nnQ,(1,.data 1 (own.map di) false false),(1,.vars (qT sum)),(1,.vars (qT u)),(1,.vars [I b.1,I b.2.1,S b.2.2]),(1,.vars (qT lw)),(1,.vars (qT hw)),nnQ,nnQ]) (fun q hq=>?_) (fun h eh=>?_)
  .by_cases h2:pi=2
   .rw[if_pos h2]at hlw hhw;simp(disch:=try exact ac)[h2];refine cd o1 ?_;simp(disch:=try exact ac);refine cd o1 ?_;simp(disch:=try exact ac)[qT];refine hq _ ?_;rw[hlw,hhw];rfl
   .rw[if_neg h2]at hlw hhw;simp(disch:=try exact ac)[h2];refine hq _ ?_;rw[hlw,hhw];rfl
  .subst eh;have xr:=CU rs (K:=900*a.length+1) (c:=sum) (x:=pk sg x y) (L:=833) (by unfold pk;split;exact y1;exact x1);have ad2:=O5 (a:=sum) (b:=pk sg x y) rs.1 (by unfold pk;split;exact y1.1;exact x1.1) (rs.2.mono aa) (by unfold pk;split;exact y1.2.mono ae;exact x1.2.mono ae)
   have ih:=ih (qR sum (pk sg x y)) _ (by simpa using ha) (by simpa using hoa) (by simp[hla]) (lm xr (by rw[Zo,List.length_singleton];omega)) (Rep.add hr pr) h1 h2;rw[e5]at ih;simp(disch:=try exact ac)[f1,f2,qT];refine cd (args:=[.agg (qT c),.agg (qT lw)]) m1 ?_ (by rfl);simp(disch:=try exact ac)[f1,f2,qT]
   refine cd (args:=[.agg (qT c),.agg (qT hw)]) m2 ?_ (by rfl);simp(disch:=try exact ac)[qT];refine cd (args:=[.agg (qT x),.agg (qT y)]) cm ?_ (by rfl);by_cases hk:decide (0<sgn (x.1*y.2-y.1*x.2))=decide (0<sg)
   .have e:pk sg x y=y:=by unfold pk;rw[if_pos hk]
    rw[e]at ad2 ih;have hk':(decide (0<sgn (x.1*y.2-y.1*x.2)) == decide (0<sg))=true:=by simpa using hk
    simp(disch:=try exact ac)[hk'];refine aE ?_;simp(disch:=try exact ac);refine cd (args:=[.agg (qT sum),.agg (qT y)]) ad2 ?_ (by rfl);simp(disch:=try exact ac)[qT,clean,iN,jf,fU,oJ,nY,offB,ew,iM,gN,dP,beq_lit];exact⟨rfl,ih⟩
   .have e:pk sg x y=x:=by unfold pk;rw[if_neg hk]
    rw[e]at ad2 ih;have hk':(decide (0<sgn (x.1*y.2-y.1*x.2)) == decide (0<sg))=false:=by simpa using hk
    simp(disch:=try exact ac)[hk'];refine aE ?_;simp(disch:=try exact ac);refine cd (args:=[.agg (qT sum),.agg (qT x)]) ad2 ?_ (by rfl);simp(disch:=try exact ac)[qT,clean,iN,jf,fU,oJ,nY,offB,ew,iM,gN,dP,beq_lit];exact⟨rfl,ih⟩
theorem JL{sg n:Int}{l:List (Int×Nat)}{own:LiQ}(h:n<0∨64<n):tb p sg n bs l own=false:=by
 unfold tb;split
 .have:¬n=0:=aa;simp[this]
 .split
  .rfl
  .rename_i h2 h3;have h4:own.length≠0∧bs.length=own.length:=aa
   match own,bs,h4 with
   |[],_,h4=>exact absurd rfl h4.1
   |_::_,[],h4=>simp at h4
   | o::own,b::bs,h4=>
    simp only[o9];rw[if_neg];rintro⟨_,e,hb⟩;unfold bdB fq at hb;split at hb
    .simp only[Z8,decide_eq_true_eq]at hb;omega
    .cases hb
theorem Oc:∀(s:List Q)(i:Nat),∀o∈iB i s,∃j:Nat,o=((i+j:Nat):Int)∧j<s.length∧(nth (0,1) s j).1≠0
 |[],i,o,h=>by simp[iB]at h
 | c::s,i,o,h=>by
  have ih:=Oc s (i+1) o;simp only[iB]at h;by_cases hz:c.1=0
  .rw[if_pos hz]at h;obtain⟨j,e,hj,hn⟩:=ih h;exact⟨j+1,by rw[e];congr 1;omega,ak,by simpa[nth]using hn⟩
  .rw[if_neg hz]at h;rcases Zc.1 h with e|h
   .exact⟨0,e,af,hz⟩
   .obtain⟨j,e,hj,hn⟩:=ih h;exact⟨j+1,by rw[e];congr 1;omega,ak,by simpa[nth]using hn⟩
theorem GL(A:kY){sg n:Int}(hsz:r8 p (s.map tx)=true)(hs:okS s)(hps:p.length=s.length)(hN:s.length<=8)(hbl:∀b∈bs,b.2.2.length<1000):
  CP Y F.bK [lst di p,szV s,cmV sg n bs] (B (tc p (s.map tx) sg n bs)):=by
 refine vL ?_
 have sr:=yZ (p:=p) (s:=s.map tx) aa (fun x hx=>by
   obtain⟨q,hq,rfl⟩:=X4.1 hx;have:=Ma (hs q hq).2;omega) ak
 rw[hsz]at sr;have sr:CP Y F.cM [lst di p,szV s] (B true):=sr
 have e:tc p (s.map tx) sg n bs=tb p sg n bs s (iB 0 s):=by
  unfold tc;rw[if_pos hsz,zC hs];rfl
 rw[e];have hl:aj (szV s)=some (I s.length):=by simp[szV,gR,aj]
 by_cases hn:n<0∨64<n
 .rw[JL hn];by_cases h1:n<0
  .simp(disch:=try exact ac)[bK];refine cd sr ?_ (by simp[av,aP,szV]);simp(disch:=try exact ac)[h1]
  .have h2:64<n:=aa;simp(disch:=try exact ac)[bK];refine cd sr ?_ (by simp[av,aP,szV]);simp(disch:=try exact ac)[h1,h2]
 obtain⟨m,hm⟩:∃m:Nat,n=m:=⟨n.toNat,aa⟩;subst hm;have h1:¬(m:Int)<0:=aa;have h2:¬(64:Int)<m:=aa;have l0:=fun K hK=>R8 hs hN sg m bs K _ rfl s [] [] rfl (Z7 _) hK
 simp only[List.length_nil,List.nil_append]at l0;obtain⟨own,hown⟩:=nmQ (iB 0 s);have om:=Oc s 0;have ol:=AR s 0;rw[<-hown]at l0 om ol ⊢;have lv:=FB snA own.length (own.map di);simp(disch:=try exact ac)[bK];refine cd sr ?_ (by simp[av,aP,szV]);simp(disch:=try exact ac)[h1,h2,hl];refine lo (l0 _ ?_)
 simp(disch:=try exact ac);unfold tb;by_cases g0:sg=0
 .subst g0;rw[if_pos rfl];refine oB (fun _=>?_) (fun h=>absurd rfl h);by_cases k1:own.length=0
  .have hk1:=eq_true k1;by_cases k2:m=0
   .have hk2:=eq_true k2;simp(disch:=try exact ac)[lv,hk1,hk2]
   .simp(disch:=try exact ac)[lv,hk1,k2]
  .simp(disch:=try exact ac)[lv,k1]
 .rw[if_neg g0];refine oB (fun h=>absurd h g0) (fun _=>?_);have gc:(sg=1∨sg = -1)∨(sg≠1∧sg≠-1):=aa;rcases gc with gc|⟨gc1,gc2⟩
  rotate_left
  .rw[if_pos (.inl ⟨gc1,gc2⟩)];simp(disch:=try exact ac)[gc1,gc2]
  by_cases k1:own.length=0
  .rw[if_pos (.inr (.inl k1))];have hk1:=eq_true k1;rcases gc with rfl|rfl
   .simp(disch:=try exact ac)[lv,hk1]
   .simp(disch:=try exact ac)[lv,hk1]
  by_cases k2:bs.length=own.length
  rotate_left
  .rw[if_pos (.inr (.inr k2))];rcases gc with rfl|rfl
   .simp(disch:=try exact ac)[lv,k1,k2]
   .simp(disch:=try exact ac)[lv,k1,k2]
  rw[if_neg aa];have hk2:=eq_true k2;obtain⟨n',hn'⟩:∃n,own.length=n+1:=⟨own.length-1,aa⟩
  have hV:snA.v own.length (own.map di)=.ref 2 1 0 own.length own.length own.length:=by
   have:(own.map di).length=n'+1:=by simp[hn']
   rw[hn']
   show V.ref 2 1 0 (n'+1) (n'+1) (own.map di).length=_
   rw[this]
  have hB:snA.b own.length (own.map di)=(1,.data 1 (own.map di) false false):=by
   rw[hn'];rfl
  have o1:=Oh (a:=0) ae;have pw:=Se (n:=m) aa;obtain⟨u,hu⟩:∃u:Q,u=(((2^m:Nat):Int),1):=⟨_,rfl⟩;rw[<-hu]at pw;have ok0:okR ((0:Int),1) 1:=⟨⟨ae,ae⟩,cg ae ae,cg ae ae⟩;have rp0:Rep (2^m) ((0:Int),1) (0,1):=⟨Nat.one_pos,Nat.one_pos,af⟩
  have l1:=fun K h1 h2=>R7 A hu hs hps hN gc aa k2 aa (fun o ho=>by
   obtain⟨j,e,hj,hz⟩:=om o ho;rw[Zn]at e;subst e;exact⟨aa,aa,by simpa using hz⟩) hbl K _ rfl bs [] own [] (0,1) (0,1) rfl rfl rfl ok0 rp0 h1 h2
  have lr:aj (.ref 2 1 0 own.length own.length own.length)=some (I own.length):=rfl
  have fin:∀(r:Int×Nat)(q:Q),Rep (2^m) q r->okR q 9000->exK [((.exit 2),fun l55 h=>
      bnd (faV 0 (.ptr 0 1 0 3)) fun v56=>
      bnd (ld1 h v56) fun v57=>
      bnd (biI .gtr v57 (.d (.int .i64 0))) fun v58=>
      gd v58 true h (fun q=>bnd (ldA h 2 (.ptr 3 1 0 2)) fun v=>q v h) fun v59 h=>
      gd v58 true h (fun q=>cal (CX Y).p h (.fn F.cY [] []) [v59] q) fun v60 h=>
      gd v58 true h (fun q=>bnd (biI .geq v60 (.d (.int .i64 0))) fun v=>q v h) fun v61 h=>
      bnd (aA v58 v61 (.d (.bool false))) fun v62=>
      gd v62 false h (fun q=>bnd (faV 0 (.ptr 0 1 0 3)) fun v=>q v h) fun v63 h=>
      gd v62 false h (fun q=>bnd (ld1 h v63) fun v=>q v h) fun v64 h=>
      gd v62 false h (fun q=>bnd (biI .lss v64 (.d (.int .i64 0))) fun v=>q v h) fun v65 h=>
      gd v62 false h (fun q=>q v65 h) fun v66 h=>
      gd v66 true h (fun q=>bnd (ldA h 2 (.ptr 3 1 0 2)) fun v=>q v h) fun v67 h=>
      gd v66 true h (fun q=>cal (CX Y).p h (.fn F.cY [] []) [v67] q) fun v68 h=>
      gd v66 true h (fun q=>bnd (biI .leq v68 (.d (.int .i64 0))) fun v=>q v h) fun v69 h=>
      gd v62 false h (fun q=>bnd (aA v66 v69 (.d (.bool false))) fun v=>q v h) fun v70 h=>
      bnd (aA v62 (.d (.bool true)) v70) fun v71=>
      out (B (decide (r.1=0)||(decide (r.1<0) == decide (sg<0)))) v71 h),
      (.ret,fun l55 h=>out (B (decide (r.1=0)||(decide (r.1<0) == decide (sg<0)))) (ge l55 0) h)] (.exit 2) [] (pvH sg m bs own u q):=by
   intro r q hr hq;obtain⟨s1,s2⟩:=hr.sgn (Zp m);have sq:=JM (a:=q) hq.2 ae;rcases gc with rfl|rfl
   .simp(disch:=try exact ac)[qT];refine cd (args:=[.agg (qT q)]) sq ?_ (by rfl);by_cases z:0<=q.1
    .have z':=HX.2 z;have:=s1.1 z;simp(disch:=try exact ac)[z'];exact bL ak
    .have z':¬0<=sgn q.1:=fun e=>z (HX.1 e)
     have:¬0<=r.1:=fun e=>z (s1.2 e)
     simp(disch:=try exact ac)[z'];exact bL ak
   .simp(disch:=try exact ac)[qT];refine cd (args:=[.agg (qT q)]) sq ?_ (by rfl);by_cases z:q.1<=0
    .have z':=HW.2 z;have:=s2.1 z;simp(disch:=try exact ac)[z'];exact bL ak
    .have z':¬sgn q.1<=0:=fun e=>z (HW.1 e)
     have:¬r.1<=0:=fun e=>z (s2.2 e)
     simp(disch:=try exact ac)[z'];exact bL ak
  cases hr:o9 p s sg m own bs (0,1)with
  | none=>
   rcases gc with rfl|rfl
   all_goals
    simp(disch:=try exact ac)[lv,k1,hk2];refine cd o1 ?_;simp(disch:=try exact ac)[qT];refine cd pw ?_;simp(disch:=try exact ac)[qT];rw[hV,hB];simp(disch:=try exact ac)[lr];refine lo (l1 _ (fun r' q' hr2=>by rw[hr]at hr2;cases hr2) (fun _ h=>?_));simp(disch:=try exact ac)
  | some r=>
   rcases gc with rfl|rfl
   all_goals
    simp(disch:=try exact ac)[lv,k1,hk2];refine cd o1 ?_;simp(disch:=try exact ac)[qT];refine cd pw ?_;simp(disch:=try exact ac)[qT];rw[hV,hB];simp(disch:=try exact ac)[lr];refine lo (l1 _ (fun r' q' hr2 h3 h4=>?_) (fun hr2=>by rw[hr]at hr2;cases hr2));rw[hr]at hr2;injection hr2 with hr2;subst hr2;exact fin _ _ h3 h4
theorem qA(l:List Bd):(l.flatMap cD).length=l.length*3:=sE cD nO l
theorem Nh(hu:(h.all fun x=>aT h.length x.2)=true)(hl:0<l.length)(hb:l.length<1000000000):CI Y F.aO [gR cD l] h (.new 3 (l.flatMap cD) false l.length l.length) h:=by
 refine je ?_;have fl:=qA l;unfold gR;generalize l.flatMap cD=cells at *
 have nl:∀(H:Hp)(k:V->Prop)(u:PU k),rn (qK H .eql (.d (.sl l.length cells)) (.d nPQ)) k u=k (.d (.bool false)):=fun H k u=>by
  obtain⟨m,hm⟩:∃m,l.length=m+1:=⟨l.length-1,aa⟩;rw[hm];rfl
 simp[aO,nl]
 have hli:fj 0 [D.int .i64 0,D.int .i64 0,D.str []] [] (h++[(0,Bk.none),(0,Bk.none)])=some ([],h++[(0,Bk.none),(0,Bk.none)]):=by
  simp[fj,fS,hO]
 rw[hli];simp;refine uC (z:=[]) ae hl aa aa ?_;refine⟨af,?_,.inr (.inr (.inl ⟨h.length+1,1,l.length,l.length,3,cells,false,af,aa,by simp[aH],rfl⟩))⟩;simp only[Xz,hu,Y9]
 try simp[aT]
theorem LF(hu:(h.all fun x=>aT h.length x.2)=true):CI Y F.aO [.d (.sl 0 [])] h (.d (.sl 0 [])) h:=by
 refine je ?_;have nl:∀(H:Hp)(k:V->Prop)(u:PU k),rn (qK H .eql (.d (.sl 0 [])) (.d nPQ)) k u=∀b,k (.d (.bool b)):=fun H k u=>rfl
 simp[aO,nl];refine⟨?_,?_⟩
 ·have hli:fj 0 [D.int .i64 0,D.int .i64 0,D.str []] [] (h++[(0,Bk.none),(0,Bk.none)])=some ([],h++[(0,Bk.none),(0,Bk.none)]):=by
   simp[fj,fS,hO]
  rw[hli];simp
  show pK h.length (.d (.sl 0 [])) h (.ref h.length 1 0 0 0 0) (h++[(1,Bk.data 3 [] true false),(0,Bk.none)])
  exact⟨af,hu,.inr (.inl ⟨rfl,[],cK (h++[(1,Bk.data 3 [] true false),(0,Bk.none)]) h.length 1 (.data 3 [] true true),by simp[toD,aH]⟩)⟩
 .exact⟨af,hu,.inr (.inl ⟨rfl,[],h++[nnQ,nnQ],rfl⟩)⟩
abbrev b3D(l:List Bd):Nat×Bk:=(1,.data 3 (l.flatMap cD) false false)
def HZ:Nat->Nat->List Bd->List Bd
 |0,_,l=>l
 |r+1,i,l=>if i+i+1<l.length then HZ r (i+1) ((l.set i (nth (0,0,[]) l (l.length-1-i))).set (l.length-1-i) (nth (0,0,[]) l i))else l
theorem NT(P:Bd->Prop):∀(r i:Nat)(l:List Bd),(∀b∈l,P b)->(HZ r i l).length=l.length∧∀b∈HZ r i l,P b
 |0,_,l,h=>⟨rfl,h⟩
 | r+1,i,l,h=>by
  simp only[HZ];split
  .rename_i g
   have:=NT P r (i+1) ((l.set i (nth (0,0,[]) l (l.length-1-i))).set (l.length-1-i) (nth (0,0,[]) l i)) (fun b hb=>by
    rcases Y2 hb with hb|rfl
    .rcases Y2 hb with hb|rfl
     .exact h b hb
     .exact h _ (iO aa)
    .exact h _ (iO aa))
   simpa using this
  .exact⟨rfl,h⟩
variable{x0 x1 x2 x4 x5:Nat×Bk}
theorem O0(hn:l.length=n)(hi:i<L)(hL:L<=n)(r:Hp):ixV (x0::x1::x2::b3D l::r) 3 (.ref 3 1 0 L n (n*3)) (I i)=some (.ptr 3 1 (i*3) (n*3)):=by simp only[ixV,aH,List.getElem?_cons_succ,List.getElem?_cons_zero,if_true,qA,hn];rw[if_pos ⟨trivial,aa,aa⟩];simp
theorem Uv(hi:i<l.length):cut (l.flatMap cD) (i*3) 3=some (cD (nth (0,0,[]) l i)):=EZ cD nO (0,0,[]) l hi
theorem ZT(hn:l.length=n)(hi:i<n)(r:Hp):ldA (x0::x1::x2::b3D l::r) 3 (.ptr 3 1 (i*3) (n*3))=some (.agg [I (nth (0,0,[]) l i).1,I (nth (0,0,[]) l i).2.1,S (nth (0,0,[]) l i).2.2]):=by simp only[ldA,aH,List.getElem?_cons_succ,List.getElem?_cons_zero,if_true,qA,hn,Uv (l:=l) (i:=i) aa];rfl
theorem abq(hn:l.length=n)(hi:i<n)(r:Hp):ld1 (x0::x1::x2::b3D l::r) (.ptr 3 1 (i*3+2) (n*3))=some (S (nth (0,0,[]) l i).2.2):=by have h:=S6 cD nO (0,0,[]) l [] (j:=i) (o:=2) (x:=.str (nth (0,0,[]) l i).2.2) aa ae rfl;simp only[ld1]at h;simp only[ld1,aH,List.getElem?_cons_succ,List.getElem?_cons_zero,if_true,qA,hn];exact h
theorem ZS(hn:l.length=n)(hi:i<n)(c:Bd)(r:Hp):st (x0::x1::x2::b3D l::r) 3 (.ptr 3 1 (i*3) (n*3)) (.agg [I c.1,I c.2.1,S c.2.2])=some (x0::x1::x2::b3D (l.set i c)::r):=by
 have hfs:=EI cD nO c l i aa;have hlen:=qA l;have hle:i*3+3<=(l.flatMap cD).length:=by rw[hlen];omega
 rw[b3D,b3D,<-hfs];simp only[cD,st,sto,aH,List.getElem?_cons_succ,List.getElem?_cons_zero,if_true,List.length_cons,List.length_nil,hO,toD,norm,cK,true_and];rw[if_pos ⟨by rw[hlen,hn],hle⟩];rfl
theorem abp(hn:l.length=n)(hi:i<n)(t:LuQ)(r:Hp):st (x0::x1::x2::b3D l::r) 1 (.ptr 3 1 (i*3+2) (n*3)) (S t)=some (x0::x1::x2::b3D (l.set i ((nth (0,0,[]) l i).1,(nth (0,0,[]) l i).2.1,t))::r):=by
 obtain⟨c,hc⟩:=nmQ (nth (0,0,[]) l i);have hfs:=EI cD nO (c.1,c.2.1,t) l i aa;have hlen:=qA l;have hle:i*3+3<=(l.flatMap cD).length:=by rw[hlen];omega
 have hcut:=Uv (l:=l) (i:=i) aa;rw[<-hc]at hcut ⊢;rw[b3D,b3D,<-hfs];generalize l.flatMap cD=cells at *;unfold cut at hcut;rw[if_pos hle]at hcut;have hcut:=Option.some.inj hcut
 have e2:cells.take (i*3+2)=cells.take (i*3)++[.int .i64 c.1,.int .i64 c.2.1]:=by
  rw[List.take_add];congr 1;have:((cells.drop (i*3)).take 3).take 2=(cD c).take 2:=by rw[hcut]
  rw[List.take_take]at this;exact this
 simp only[st,sto,aH,List.getElem?_cons_succ,List.getElem?_cons_zero,if_true,List.length_cons,List.length_nil,hO,toD,norm,cK,true_and];rw[if_pos ⟨by rw[hlen,hn],aa⟩,e2];simp[cD]
theorem GG{L:Nat}(hL:L<1000000)(K:KL)(h0:Hp)(hh:h0.length=6):∀(r i:Nat)(l:List Bd),l.length=L->L<=2*i+r->2*i<=L+1 ->
  K (.exit 0) [] [x0,x1,x2,b3D (HZ r i l),x4,x5] ->
  lp (aZ (CX Y) 6 (.ref 3 1 0 L L (L*3))) [] h0 [I i,I ((L:Int)-1-i)] [x0,x1,x2,b3D l,x4,x5] K
 | 0,i,l,hl,h1,h2,hK=>by
  refine ai ?_;have g:¬((i:Int)<(L:Int)-1-i):=aa;simp(disch:=try exact ac)[aZ,g];exact hK
 | r+1,i,l,hl,h1,h2,hK=>by
  simp only[HZ,hl]at hK;by_cases g:i+i+1<L
  .rw[if_pos g]at hK;obtain⟨j,hj⟩:=nmQ (L-1-i);rw[<-hj]at hK;have g':((i:Int)<(L:Int)-1-i):=aa;have ej:(L:Int)-1-i=(j:Int):=aa;obtain⟨bi,hbi⟩:=nmQ (nth (0,0,[]) l i);obtain⟨bj,hbj⟩:=nmQ (nth (0,0,[]) l j);have i1:=O0 (x0:=x0) (x1:=x1) (x2:=x2) (l:=l) (n:=L) (i:=j) (L:=L) hl aa (Z7 _) [x4,x5]
   have l1:=ZT (x0:=x0) (x1:=x1) (x2:=x2) (l:=l) (n:=L) (i:=j) hl aa [x4,x5];have i2:=O0 (x0:=x0) (x1:=x1) (x2:=x2) (l:=l) (n:=L) (i:=i) (L:=L) hl aa (Z7 _) [x4,x5];have l2:=ZT (x0:=x0) (x1:=x1) (x2:=x2) (l:=l) (n:=L) (i:=i) hl aa [x4,x5];have s1:=ZS (x0:=x0) (x1:=x1) (x2:=x2) (l:=l) (n:=L) (i:=i) hl aa bj [x4,x5]
   have i3:=O0 (x0:=x0) (x1:=x1) (x2:=x2) (l:=l.set i bj) (n:=L) (i:=j) (L:=L) (by simpa using hl) aa (Z7 _) [x4,x5];have s2:=ZS (x0:=x0) (x1:=x1) (x2:=x2) (l:=l.set i bj) (n:=L) (i:=j) (by simpa using hl) aa bi [x4,x5];rw[<-hbj]at l1;rw[<-hbi]at l2;rw[<-hbi,<-hbj]at hK
   have ih:=GG hL K h0 hh r (i+1) ((l.set i bj).set j bi) (by simpa using hl) aa aa hK;have e2:(j:Int)-1=(L:Int)-1-((i+1:Nat):Int):=aa;rw[<-e2]at ih;have e5:((i+1:Nat):Int)=(i:Int)+1:=af;rw[e5]at ih;clear hK;refine ai ?_;rw[ej]at g' ⊢;generalize hX:(l.set i bj).set j bi=X at *;generalize hW:l.set i bj=W at *
   have hre:bm [] 0 h0 [x0,x1,x2,b3D X,x4,x5]=[x0,x1,x2,b3D X,x4,x5]:=iV 0 _ _ (by simp[hh]);simp only[b3D]at *;simp(disch:=try exact ac)[aZ,g',i1,l1,i2,l2,s1,i3,s2,hre];exact ih
  .rw[if_neg g]at hK;refine ai ?_;have g':¬((i:Int)<(L:Int)-1-i):=aa;simp(disch:=try exact ac)[aZ,g'];exact hK
theorem U7(hu:aT 6 x0.2=true∧aT 6 x1.2=true∧aT 6 x2.2=true∧aT 6 x4.2=true∧aT 6 x5.2=true)(hL:l.length<1000000):
  CI Y F.aL [.ref 3 1 0 l.length l.length (l.length*3)] [x0,x1,x2,b3D l,x4,x5] (.tup []) [x0,x1,x2,b3D (HZ l.length 0 l),x4,x5]:=by
 refine iz ?_;have lr:aj (.ref 3 1 0 l.length l.length (l.length*3))=some (I l.length):=rfl;have loop:=fun K hK=>GG (x0:=x0) (x1:=x1) (x2:=x2) (x4:=x4) (x5:=x5) hL K [x0,x1,x2,b3D l,x4,x5] rfl l.length 0 l rfl aa aa hK
 have e1:(l.length:Int)-1-((0:Nat):Int)=(l.length:Int)-1:=aa;rw[e1]at loop;obtain⟨u0,u1,u2,u4,u5⟩:=hu;simp(disch:=try exact ac)[aL,lr];refine lo (loop _ ?_);simp(disch:=try exact ac);exact⟨rfl,by simp only[List.all_cons,Wl,u0,u1,u2,u4,u5,Y9];rfl,.inl ⟨rfl,rfl⟩⟩
theorem IG(l:List Bd)(i:Nat):(l.flatMap cD).take (i*3)=(l.take i).flatMap cD:=by
 induction l generalizing i with
 |nil=>simp
 | cons b l ih=>
  cases i with
  |zero=>simp
  | succ i=>
   have:=ih i;rw[Wi,Xa,Xa,<-this,X3,Yf,List.take_add];rfl
theorem OK(l:List Bd)(i:Nat):(l.flatMap cD).drop (i*3)=(l.drop i).flatMap cD:=by
 induction l generalizing i with
 |nil=>simp
 | cons b l ih=>
  cases i with
  |zero=>simp
  | succ i=>
   have:=ih i;rw[List.drop_succ_cons,Xa,<-this,X3,Yf,<-List.drop_drop];rfl
theorem TX{l:List Bd}{i j:Nat}(hj:j=i+1)(hi:i<l.length)(hb:l.length<1000000){q:kkQ}{u:PU q}{x6:Nat×Bk}
  (hq:q (.ref 3 1 0 (l.length-1) l.length (l.length*3)) [x0,x1,x2,b3D (l.take i++l.drop j++l.drop (l.length-1)),x4,x5,x6]) :
  rh (apV false 6 3 32 (.ref 3 1 0 i l.length (l.length*3)) (.ref 3 1 (j*3) (l.length-j) (l.length-j) (l.length*3)) [x0,x1,x2,b3D l,x4,x5,x6]) q u:=by
 have fl:=qA l;have hg:aH [x0,x1,x2,b3D l,x4,x5,x6] 3 1=.data 3 (l.flatMap cD) false false:=rfl;unfold rh apV;simp only[cellsOf,hg];have hjl:j*3+(l.length-j)*3=l.length*3:=aa;rw[if_pos ⟨fl.symm,aa⟩]
 have htl:(((l.flatMap cD).drop (j*3)).take ((l.length-j)*3))=(l.drop j).flatMap cD:=by
  rw[OK,Z0];rw[qA,Yz];exact Z7 _
 have fd:=qA (l.drop j);rw[Yz]at fd;simp only[htl];rw[if_pos fd];unfold apC;by_cases h0:l.length-j=0
 .rw[if_pos h0];simp only[];rw[if_pos aa]
  have e1:l.take i++l.drop j++l.drop (l.length-1)=l:=by
   rw[Zv aa,Yj,show l.length-1=i by omega,Ys]
  rw[e1,show l.length-1=i by omega]at hq;exact hq
 .rw[if_neg h0];simp only[hg];rw[if_pos ⟨trivial,fl.symm,aa,aa,fd⟩,if_pos aa];simp only[Bool.or_self,Zi,if_false,Zn]
  have e1:List.take (i*3) (l.flatMap cD)++(l.drop j).flatMap cD++List.drop ((i+(l.length-j))*3) (l.flatMap cD)=(l.take i++l.drop j++l.drop (l.length-1)).flatMap cD:=by
   rw[IG,OK,show i+(l.length-j)=l.length-1 by omega];simp
  rw[e1,show i+(l.length-j)=l.length-1 by omega];exact hq
theorem WZ(hn:n=l.length)(hi:i<n)(hb:n<1000000)(hu:aT 6 x0.2=true∧aT 6 x1.2=true∧aT 6 x2.2=true∧aT 6 x4.2=true∧aT 6 x5.2=true):
  CI Y F.aX [.ref 3 1 0 n n (n*3),I i,I ((i:Int)+1)] [x0,x1,x2,b3D l,x4,x5] (.ref 3 1 0 (n-1) n (n*3)) [x0,x1,x2,b3D (l.eraseIdx i++[(0,0,[])]),x4,x5]:=by
 subst hn;refine nR ?_;have e5:(i:Int)+1=((i+1:Nat):Int):=af;rw[e5];have h1:¬(i:Int)=((i+1:Nat):Int):=aa;obtain⟨j,hj⟩:=nmQ (i+1);rw[<-hj]at h1 ⊢;have fl:=qA l;have hg:∀(l:List Bd) r,aH (x0::x1::x2::b3D l::r) 3 1=.data 3 (l.flatMap cD) false false:=fun _ _=>rfl
 have hsx:slX [x0,x1,x2,b3D l,x4,x5,nnQ] 3 (.ref 3 1 0 l.length l.length (l.length*3)) (some (I i)) (some (I j)) (I l.length)=some (.ref 3 1 (i*3) (j-i) (l.length-i) (l.length*3)):=by
  simp[slX,hg,boV,fl,show j<=l.length by omega,show i<=j by omega,-List.length_flatMap]
 have hs1:slV [x0,x1,x2,b3D l,x4,x5,nnQ] 3 (.ref 3 1 0 l.length l.length (l.length*3)) none (some (I i))=some (.ref 3 1 0 i l.length (l.length*3)):=by
  simp[slV,hg,boV,fl,show i<=l.length by omega,-List.length_flatMap]
 have hs2:slV [x0,x1,x2,b3D l,x4,x5,nnQ] 3 (.ref 3 1 0 l.length l.length (l.length*3)) (some (I j)) none=some (.ref 3 1 (j*3) (l.length-j) (l.length-j) (l.length*3)):=by
  simp[slV,hg,boV,fl,show j<=l.length by omega,-List.length_flatMap]
 simp(disch:=try exact ac)[aX,hsx,hs1,hs2,h1];refine TX hj hi hb ?_;obtain⟨X,hX⟩:=nmQ (l.take i++l.drop j++l.drop (l.length-1));have hxl:X.length=l.length:=by rw[hX];simp;omega
 have fx:=qA X
 have herase:X.take (l.length-1)=l.eraseIdx i:=by
  rw[hX,Yo ak,List.eraseIdx_eq_take_drop_succ,hj]
 rw[<-hX];obtain⟨E,hE⟩:∃E:List Bd,E=l.eraseIdx i++[(0,0,[])]:=⟨_,rfl⟩;rw[<-hE];have e1:((l.length-1:Nat):Int)=(l.length:Int)-1:=aa
 have hs3:slV [x0,x1,x2,b3D X,x4,x5,nnQ] 3 (.ref 3 1 0 (l.length-1) l.length (l.length*3)) (some (I (l.length-1:Nat))) (some (I l.length))=some (.ref 3 1 ((l.length-1)*3) 1 (l.length-(l.length-1)) (l.length*3)):=by
  simp only[slV,hg,boV,fx,hxl];rw[if_pos ⟨aa,aa⟩];simp only[Int.toNat_natCast];rw[if_pos ⟨aa,aa⟩];simp only[Int.toNat_natCast];rw[if_pos ⟨trivial,aa,trivial⟩];congr 2<;>omega
 have hclr:∀q:kkQ,q (.tup []) [x0,x1,x2,b3D E,x4,x5,nnQ]->IR [x0,x1,x2,b3D X,x4,x5,nnQ] [D.int .i64 0,D.int .i64 0,D.str []] (.ref 3 1 ((l.length-1)*3) 1 (l.length-(l.length-1)) (l.length*3)) q:=by
  intro q hq
  have e1:List.take ((l.length-1)*3) (X.flatMap cD)++fS 1 [D.int .i64 0,D.int .i64 0,D.str []]++List.drop ((l.length-1)*3+(fS 1 [D.int .i64 0,D.int .i64 0,D.str []]).length) (X.flatMap cD)=E.flatMap cD:=by
   rw[IG,herase,Zv (by rw[fx,hxl];show _<=(l.length-1)*3+3;omega),hE];simp[cD,fS]
  simp only[IR,hg];rw[if_pos ⟨aa,rfl,aa,trivial,by rw[fx,hxl],by rw[fx,hxl];show(l.length-1)*3+3<=_;omega⟩,e1];exact hq
 simp(disch:=try exact ac)[hs3];refine hclr _ ?_;obtain⟨u0,u1,u2,u4,u5⟩:=hu;refine⟨rfl,?_,.inl ⟨rfl,by simp[under]⟩⟩;simp only[List.all_cons,Wl,u0,u1,u2,u4,u5,Y9];rfl
abbrev YR(k a b:Nat):V:=.agg [.d (.int .u8 k),.d (.int .u8 a),.d (.int .u8 b)]
theorem IU{sg n:Int}{Z:List Bd}(hL:(bs++Z).length=L)(s0 s1 s2:Nat×Bk)(r:Hp):out (cmV sg n bs) (.agg [I sg,I n,.ref 3 1 0 bs.length L (L*3)]) (s0::s1::s2::b3D (bs++Z)::r):=by
 have fl:=qA (bs++Z)
 have ht:((bs++Z).flatMap cD).take (bs.length*3)=bs.flatMap cD:=by
  rw[IG,Yo rfl]
 have hle:bs.length<=L:=by rw[<-hL];simp
 refine⟨cK (s0::s1::s2::b3D (bs++Z)::r) 3 1 (.data 3 ((bs++Z).flatMap cD) false true),?_⟩
 have hd:toD (s0::s1::s2::b3D (bs++Z)::r) (.ref 3 1 0 bs.length L (L*3))=some (.sl bs.length (bs.flatMap cD),cK (s0::s1::s2::b3D (bs++Z)::r) 3 1 (.data 3 ((bs++Z).flatMap cD) false true)):=by
  have hg:aH (s0::s1::s2::b3D (bs++Z)::r) 3 1=.data 3 ((bs++Z).flatMap cD) false false:=rfl;simp only[toD,hg];rw[if_pos ⟨by rw[fl,hL],hle,by rw[fl,hL];omega⟩,Yp,ht]
 simp only[aP,av,hd,norm];rfl
theorem len_nil:aj (.d (.sl 0 []))=some (I 0):=rfl
theorem RP{x0 x1 x2 x3 x4 x5:Nat×Bk}(hu:aT 6 x0.2=true∧aT 6 x1.2=true∧aT 6 x2.2=true∧aT 6 x3.2=true∧aT 6 x4.2=true∧aT 6 x5.2=true):
  CI Y F.aL [.d (.sl 0 [])] [x0,x1,x2,x3,x4,x5] (.tup []) [x0,x1,x2,x3,x4,x5]:=by refine iz ?_;obtain⟨u0,u1,u2,u3,u4,u5⟩:=hu;simp(disch:=try exact ac)[aL,len_nil];refine lo (ai ?_);simp(disch:=try exact ac)[aZ];exact⟨rfl,by simp only[List.all_cons,Wl,u0,u1,u2,u3,u4,u5,Y9],.inl ⟨rfl,rfl⟩⟩
theorem Nk{sg:Int}(hk:kd<256)(ha:at_<256)(hb:by_<256)(hn:n<=64)(hL:bs.length<=8)(hbs:∀b∈bs,∃a,b.2.2=ag a∧ndg a<=400):
  ∃sg' n' bs',CP Y F.aG [cmV sg n bs,YR kd at_ by_] (cmV sg' n' bs')∧∀b∈bs',b.2.2.length<1000:=by
 have hlen:∀b∈bs,b.2.2.length<1000:=fun b hb=>by
  obtain⟨a,e,h⟩:=hbs b hb;rw[e];unfold ag;rw[aS];omega
 have bx:∀(q:kkQ)(u:PU q),rh (cJ 0 (cmV sg n bs) [nnQ,nnQ,nnQ,nnQ,nnQ,nnQ]) q u=q (.ptr 0 1 0 3) [(1,.vars [I sg,I n,gR cD bs]),nnQ,nnQ,nnQ,nnQ,nnQ]:=fun _ _=>rfl
 have km:(kd:Int).tmod 7=((kd%7:Nat):Int):=by rw[Z4 aa];omega
 have k7:kd%7=0∨kd%7=1∨kd%7=2∨kd%7=3∨kd%7=4∨kd%7=5∨kd%7=6:=aa;obtain⟨kk,hkk⟩:=nmQ (kd%7);rw[<-hkk]at km k7;by_cases he:bs=[]
 .subst he;have cl:=LF (h:=[(1,.vars [I sg,I n,.d (.sl 0 [])]),(1,.vars [.d (.int .u8 kd),.d (.int .u8 at_),.d (.int .u8 by_)]),(1,.vars [I 0,I 0,.d nPQ]),nnQ,nnQ,nnQ]) rfl
  have rk:=RP (x0:=(1,.vars [I sg,I n,.d (.sl 0 [])])) (x1:=(1,.vars [.d (.int .u8 kd),.d (.int .u8 at_),.d (.int .u8 by_)])) (x2:=(1,.vars [I 0,I 0,.d nPQ])) (x3:=nnQ) (x4:=nnQ) (x5:=nnQ) ⟨rfl,rfl,rfl,rfl,rfl,rfl⟩;have e0:gR cD []=.d (.sl 0 []):=rfl;have mx:mxI true [I 0,I 1]=some (I 1):=rfl
  have b4:(by_:Int).tmod 4=((by_%4:Nat):Int):=by rw[Z4 aa];omega
  have b3:(by_:Int).tmod 3=((by_%3:Nat):Int):=by rw[Z4 aa];omega
  have c4l:by_%4<4:=aa;have c3l:by_%3<3:=aa;generalize by_%4=c4 at *;generalize by_%3=c3 at *;rcases k7 with rfl|rfl|rfl|rfl|rfl|rfl|rfl
  .refine⟨sg,n,[],?_,hlen⟩;refine aQ ?_;simp(disch:=try exact ac)[aG,bx,e0];refine dX (iG cl ?_ af);simp(disch:=try exact ac)[len_nil,mx,km]
   iterate 7 (refine aE ?_;simp(disch:=try exact ac))
   exact⟨_,rfl⟩
  .refine⟨(c4:Int)-1,n,[],?_,hlen⟩;refine aQ ?_;simp(disch:=try exact ac)[aG,bx,e0];refine dX (iG cl ?_ af);simp(disch:=try exact ac)[len_nil,mx,km]
   iterate 2 (refine aE ?_;simp(disch:=try exact ac)[b4])
   exact⟨_,rfl⟩
  .refine⟨sg,(n:Int)+((c3:Int)-1),[],?_,hlen⟩;refine aQ ?_;simp(disch:=try exact ac)[aG,bx,e0];refine dX (iG cl ?_ af);simp(disch:=try exact ac)[len_nil,mx,km]
   iterate 3 (refine aE ?_;simp(disch:=try exact ac)[b3])
   exact⟨_,rfl⟩
  .refine⟨sg,n,[],?_,hlen⟩;refine aQ ?_;simp(disch:=try exact ac)[aG,bx,e0];refine dX (iG cl ?_ af);simp(disch:=try exact ac)[len_nil,mx,km]
   iterate 5 (refine aE ?_;simp(disch:=try exact ac)[len_nil])
   exact⟨_,rfl⟩
  .refine⟨sg,n,[],?_,hlen⟩;refine aQ ?_;simp(disch:=try exact ac)[aG,bx,e0];refine dX (iG cl ?_ af);simp(disch:=try exact ac)[len_nil,mx,km]
   iterate 6 (refine aE ?_;simp(disch:=try exact ac)[len_nil])
   exact⟨_,rfl⟩
  .refine⟨0,0,[],?_,hlen⟩;refine aQ ?_;simp(disch:=try exact ac)[aG,bx,e0];refine dX (iG cl ?_ af);simp(disch:=try exact ac)[len_nil,mx,km]
   iterate 6 (refine aE ?_;simp(disch:=try exact ac))
   exact⟨_,rfl⟩
  .refine⟨sg,n,[],?_,hlen⟩;refine aQ ?_;simp(disch:=try exact ac)[aG,bx,e0];refine dX (iG cl ?_ af);simp(disch:=try exact ac)[len_nil,mx,km]
   iterate 7 (refine aE ?_;simp(disch:=try exact ac))
   refine dX (iG rk ?_ af);simp(disch:=try exact ac);exact⟨_,rfl⟩
 .have hpos:0<bs.length:=Xq.2 he;have cl:=Nh (h:=[(1,.vars [I sg,I n,gR cD bs]),(1,.vars [.d (.int .u8 kd),.d (.int .u8 at_),.d (.int .u8 by_)]),(1,.vars [I 0,I 0,.d nPQ]),nnQ,nnQ,nnQ]) rfl hpos aa;have lr:aj (.ref 3 1 0 bs.length bs.length (bs.length*3))=some (I bs.length):=rfl
  have mx:mxI true [I bs.length,I 1]=some (I bs.length):=by
   simp[mxI,mx2];omega
  have am:(at_:Int).tmod bs.length=((at_%bs.length:Nat):Int):=by rw[Z4 aa];omega
  obtain⟨i,hi⟩:=nmQ (at_%bs.length);have hil:i<bs.length:=by rw[hi];exact Zk _ hpos
  rw[<-hi]at am;have fl:=qA bs;have n0:¬(bs.length:Int)=0:=aa;have b4:(by_:Int).tmod 4=((by_%4:Nat):Int):=by rw[Z4 aa];omega
  have b3:(by_:Int).tmod 3=((by_%3:Nat):Int):=by rw[Z4 aa];omega
  have c4l:by_%4<4:=aa;have c3l:by_%3<3:=aa;generalize by_%4=c4 at *;generalize by_%3=c3 at *;have gp:(bs.length:Int)>0:=aa;have fin:=fun(sg n:Int)(s0 s1 s2:Nat×Bk)(r:Hp)=>IU (sg:=sg) (n:=n) (bs:=bs) (Z:=[]) (L:=bs.length) af s0 s1 s2 r
  simp only[Yj]at fin;rcases k7 with rfl|rfl|rfl|rfl|rfl|rfl|rfl
  .refine⟨sg,n,bs,?_,hlen⟩;refine aQ ?_;simp(disch:=try exact ac)[aG,bx];refine dX (eU (s:=3) (e:=0) (b:=.none) cl rfl ?_);simp(disch:=try exact ac)[lr,mx,n0,am,km,fl]
   iterate 7 (refine aE ?_;simp(disch:=try exact ac))
   exact fin _ _ _ _ _ _
  .refine⟨(c4:Int)-1,n,bs,?_,hlen⟩;refine aQ ?_;simp(disch:=try exact ac)[aG,bx];refine dX (eU (s:=3) (e:=0) (b:=.none) cl rfl ?_);simp(disch:=try exact ac)[lr,mx,n0,am,km,fl]
   iterate 2 (refine aE ?_;simp(disch:=try exact ac)[b4])
   exact fin _ _ _ _ _ _
  .refine⟨sg,(n:Int)+((c3:Int)-1),bs,?_,hlen⟩;refine aQ ?_;simp(disch:=try exact ac)[aG,bx];refine dX (eU (s:=3) (e:=0) (b:=.none) cl rfl ?_);simp(disch:=try exact ac)[lr,mx,n0,am,km,fl]
   iterate 3 (refine aE ?_;simp(disch:=try exact ac)[b3])
   exact fin _ _ _ _ _ _
  .obtain⟨a,ea,hna⟩:=hbs (nth (0,0,[]) bs i) (iO hil);obtain⟨z,hz⟩:∃z:Int,z=(c3:Int)-1:=⟨_,rfl⟩;have rd:=abq (x0:=(1,.vars [I sg,I n,.ref 3 1 0 bs.length bs.length (bs.length*3)])) (x1:=(1,.vars [.d (.int .u8 kd),.d (.int .u8 at_),.d (.int .u8 by_)])) (x2:=(1,.vars [I 0,I 0,.d nPQ])) (l:=bs) rfl hil [nnQ,nnQ]
   have ix:=O0 (x0:=(1,.vars [I sg,I n,.ref 3 1 0 bs.length bs.length (bs.length*3)])) (x1:=(1,.vars [.d (.int .u8 kd),.d (.int .u8 at_),.d (.int .u8 by_)])) (x2:=(1,.vars [I 0,I 0,.d nPQ])) (l:=bs) rfl hil (Z7 _) [nnQ,nnQ]
   have sr:=abp (x0:=(1,.vars [I sg,I n,.ref 3 1 0 bs.length bs.length (bs.length*3)])) (x1:=(1,.vars [.d (.int .u8 kd),.d (.int .u8 at_),.d (.int .u8 by_)])) (x2:=(1,.vars [I 0,I 0,.d nPQ])) (l:=bs) rfl hil (itoa ((a:Int)+z)) [nnQ,nnQ];rw[ea]at rd;have to:=ND (z:=(a:Int)) (by rw[Int.natAbs_natCast];omega);rw[iC]at to;have la:=dw a
   have of:=ME (z:=z) aa aa
   have lz:bz z.natAbs<=2:=by
    have:=cg (n:=z.natAbs) (d:=2) aa ae;exact mD this
   have nz:ndg ((a:Int)+z).natAbs<=401:=jA (by rw[Int.natAbs_natCast];exact hna) (by have:=cg (n:=z.natAbs) (d:=2) aa ae;omega)
   have ad:=Dg (x:=(a:Int)) (y:=z) (by rw[Int.natAbs_natCast];omega) aa (by
    rw[Int.natAbs_natCast];have:=jA (z:=(a:Int)) (w:=((z.natAbs:Nat):Int)) (k:=400) (by rw[Int.natAbs_natCast];exact hna) (by rw[Int.natAbs_natCast];have:=cg (n:=z.natAbs) (d:=2) aa ae;omega);rw[show((a:Int)+((z.natAbs:Nat):Int)).natAbs=a+z.natAbs by omega]at this;have:=dw (a+z.natAbs);omega)
   have fr:=WB (z:=(a:Int)+z) (by have:=mD nz;omega)
   have hlz:(itoa ((a:Int)+z)).length<1000:=by
    unfold itoa;split
    .unfold ag;rw[List.length_cons,aS];omega
    .unfold ag;rw[aS];omega
   refine⟨sg,n,bs.set i ((nth (0,0,[]) bs i).1,(nth (0,0,[]) bs i).2.1,itoa ((a:Int)+z)),?_,fun b hb=>?_⟩
   .refine aQ ?_;simp(disch:=try exact ac)[aG,bx];refine dX (eU (s:=3) (e:=0) (b:=.none) cl rfl ?_);simp(disch:=try exact ac)[lr,mx,n0,am,km,fl]
    iterate 4 (refine aE ?_;simp(disch:=try exact ac))
    subst hz;simp only[b3D]at rd ix sr;refine aE ?_;simp(disch:=try exact ac)[hpos,ix,rd,b3];refine cd to ?_;simp(disch:=try exact ac)[b3];refine cd of ?_;simp(disch:=try exact ac);refine cd ad ?_ (wB _ _ _);simp(disch:=try exact ac);refine cd fr ?_ (snI _ _);simp(disch:=try exact ac)[ix,sr]
    have:=IU (sg:=sg) (n:=(n:Int)) (bs:=bs.set i ((nth (0,0,[]) bs i).1,(nth (0,0,[]) bs i).2.1,itoa ((a:Int)+((c3:Int)-1)))) (Z:=[]) (L:=bs.length) af (1,.vars [I sg,I n,.ref 3 1 0 bs.length bs.length (bs.length*3)]) (1,.vars [.d (.int .u8 kd),.d (.int .u8 at_),.d (.int .u8 by_)]) (1,.vars [I sg,I n,.ref 3 1 0 bs.length bs.length (bs.length*3)]) [nnQ,nnQ]
    rw[Yj,List.length_set]at this;exact this
   .rcases Y2 hb with hb|rfl
    .exact hlen b hb
    .exact hlz
  .have dl:=WZ (x0:=(1,.vars [I sg,I n,.ref 3 1 0 bs.length bs.length (bs.length*3)])) (x1:=(1,.vars [.d (.int .u8 kd),.d (.int .u8 at_),.d (.int .u8 by_)])) (x2:=(1,.vars [I 0,I 0,.d nPQ])) (x4:=nnQ) (x5:=nnQ) (l:=bs) rfl hil aa ⟨rfl,rfl,rfl,rfl,rfl⟩;refine⟨sg,n,bs.eraseIdx i,?_,fun b hb=>hlen b (List.mem_of_mem_eraseIdx hb)⟩
   refine aQ ?_;simp(disch:=try exact ac)[aG,bx];refine dX (eU (s:=3) (e:=0) (b:=.none) cl rfl ?_);simp(disch:=try exact ac)[lr,mx,n0,am,km,fl]
   iterate 5 (refine aE ?_;simp(disch:=try exact ac))
   refine aE ?_;simp(disch:=try exact ac)[hpos];refine dX (iG dl ?_ af);simp(disch:=try exact ac);have el:(bs.eraseIdx i).length=bs.length-1:=List.length_eraseIdx_of_lt hil
   have:=IU (sg:=sg) (n:=(n:Int)) (bs:=bs.eraseIdx i) (Z:=[(0,0,[])]) (L:=bs.length) (by rw[Zo,el,List.length_singleton];omega) (1,.vars [I sg,I n,.ref 3 1 0 (bs.length-1) bs.length (bs.length*3)]) (1,.vars [.d (.int .u8 kd),.d (.int .u8 at_),.d (.int .u8 by_)]) (1,.vars [I sg,I n,.ref 3 1 0 (bs.length-1) bs.length (bs.length*3)]) [nnQ,nnQ];rw[el]at this
   exact this
  .refine⟨0,0,[],?_,fun b hb=>by cases hb⟩;refine aQ ?_;simp(disch:=try exact ac)[aG,bx];refine dX (eU (s:=3) (e:=0) (b:=.none) cl rfl ?_);simp(disch:=try exact ac)[lr,mx,n0,am,km,fl]
   iterate 6 (refine aE ?_;simp(disch:=try exact ac))
   exact⟨_,rfl⟩
  .have rv:=NT (fun b=>b.2.2.length<1000) bs.length 0 bs hlen;have rk:=U7 (x0:=(1,.vars [I sg,I n,.ref 3 1 0 bs.length bs.length (bs.length*3)])) (x1:=(1,.vars [.d (.int .u8 kd),.d (.int .u8 at_),.d (.int .u8 by_)])) (x2:=(1,.vars [I 0,I 0,.d nPQ])) (x4:=nnQ) (x5:=nnQ) (l:=bs) ⟨rfl,rfl,rfl,rfl,rfl⟩ aa;refine⟨sg,n,HZ bs.length 0 bs,?_,rv.2⟩
   refine aQ ?_;simp(disch:=try exact ac)[aG,bx];refine dX (eU (s:=3) (e:=0) (b:=.none) cl rfl ?_);simp(disch:=try exact ac)[lr,mx,n0,am,km,fl]
   iterate 7 (refine aE ?_;simp(disch:=try exact ac))
   refine dX (iG rk ?_ af);simp(disch:=try exact ac)
   have:=IU (sg:=sg) (n:=(n:Int)) (bs:=HZ bs.length 0 bs) (Z:=[]) (L:=bs.length) (by simp[rv.1]) (1,.vars [I sg,I n,.ref 3 1 0 bs.length bs.length (bs.length*3)]) (1,.vars [.d (.int .u8 kd),.d (.int .u8 at_),.d (.int .u8 by_)]) (1,.vars [I sg,I n,.ref 3 1 0 bs.length bs.length (bs.length*3)]) [nnQ,nnQ];rw[Yj,rv.1]at this;exact this
theorem QO{n d:LuQ}(h:rdF n d=some q):n=itoa q.1∧d=ag q.2∧okQ q:=by
 unfold rdF at h;cases h1:rd n with
 |none=>rw[h1]at h;cases h
 | some x=>
  cases h2:rd d with
  |none=>rw[h1,h2]at h;cases h
  | some y=>
   rw[h1,h2]at h;simp only at h;split at h
   .rename_i hc;obtain rfl:=Option.some.inj h;refine⟨(zj h1).1,?_,by show 0<y.natAbs;omega,hc.2⟩;rw[(zj h2).1];unfold itoa;rw[if_neg aa]
   .cases h
theorem aaE{x:Tx}(h:wT x=true):∃q:Q,x=tx q∧okQ q∧qL 30 q:=by
 simp only[wT,Z8,md,decide_eq_true_eq]at h;obtain⟨⟨s1,s2⟩,hq⟩:=h;obtain⟨q,hq⟩:=Xt.1 hq;obtain⟨e1,e2,ok⟩:=QO hq;rw[e1,pN]at s1;rw[e2,<-iC,pN,Int.natAbs_natCast]at s2;have h1:(ag q.1.natAbs).length=ndg q.1.natAbs:=aS _ _;have h2:(ag q.2).length=ndg q.2:=aS _ _;refine⟨q,?_,ok,aa,aa⟩;unfold tx
 rw[<-e1,<-e2]
theorem Oi:∀{s:List Tx},s.all wT=true->∃l:List Q,s=l.map tx∧okS l
 |[],_=>⟨[],rfl,fun x hx=>by cases hx⟩
 | x::s,h=>by
  simp only[List.all_cons,Z8]at h;obtain⟨q,e,h1,h2⟩:=aaE h.1;obtain⟨l,e2,h3⟩:=Oi h.2;refine⟨q::l,by rw[e,e2];rfl,fun y hy=>?_⟩;rcases Zc.1 hy with rfl|hy
  .exact⟨h1,h2⟩
  .exact h3 y hy
theorem G9:∀(q:LiQ)(prev:Option Int),uj prev q=true->∀x∈q,bw x=true
 |[],_,_,x,hx=>by cases hx
 | y::q,prev,h,x,hx=>by
  simp only[uj,Z8]at h;rcases Zc.1 hx with rfl|hx
  .exact h.1.1
  .exact G9 q (some y) h.2 x hx
theorem LL(A:kY){M n:Nat}(hM:jm M):∀(p:LiQ)(s:List Q),(∀x∈p,bw x=true)->∀b∈mG M n p s,∃a,b.2.2=ag a∧ndg a<=400
 |[],s,_,b,hb=>by simp[mG]at hb
 |_::p,[],_,b,hb=>by simp[mG]at hb
 | x::p,c::s,hp,b,hb=>by
  have ih:=LL A (n:=n) hM p s (fun y hy=>hp y (by simp[hy])) b;simp only[mG]at hb;split at hb
  .exact ih hb
  .rcases Zc.1 hb with rfl|hb
   .exact⟨_,rfl,Oo (xa A (hp x af) hM).2⟩
   .exact ih hb
theorem Kf:∀(s:List Q)(i:Nat),(s.all fun a=>decide (a.1=0))=true->iB i s=[]
 |[],i,_=>rfl
 | c::s,i,h=>by
  simp only[List.all_cons,Z8,decide_eq_true_eq]at h;simp only[iB];rw[if_pos h.1];exact Kf s _ h.2
theorem TY(hpc:pcB p=0)(hs:okS s)(hps:p.length=s.length)(hN:s.length<=8)(hz:(s.all fun a=>decide (a.1=0))=true):
  CP Y F.dG [lst di p,szV s] (.tup [cmV 0 0 [],I 0]):=by
 refine sN ?_
 have ck:CP Y F.mc [lst di p,szV s] (I 0):=by
  have:=DN (p:=p) (s:=s.map tx) aa (fun x hx=>by
   obtain⟨q,hq,rfl⟩:=X4.1 hx;have:=Ma (hs q hq).2;omega) ak
  have e:siB p (s.map tx)=0:=by
   unfold siB scB;rw[if_pos hpc,if_pos (by simp[hps]),HK hs]
  rwa [e]at this
 have ze:=K6 (l:=s) aa;rw[hz]at ze;simp(disch:=try exact ac)[dG];refine cd ck ?_ (by simp[av,aP,szV]);simp(disch:=try exact ac);refine cd ze ?_ (by simp[av,aP,szV]);simp(disch:=try exact ac);exact⟨_,rfl⟩
theorem P9(A:kY)(p:LiQ)(s:List Tx)(hk:kd<256)(ha:at_<256)(hb:by_<256):CP Y F.eW [lst di p,gR fi s,YR kd at_ by_] (B true):=by
 refine rz ?_;have lp':aj (lst di p)=some (I p.length):=rfl;have ls':aj (gR fi s)=some (I s.length):=rfl;have hkn:=Ta;simp(disch:=try exact ac)[eW];refine cd hkn ?_;by_cases g3:(9:Int)<p.length
 .simp(disch:=try exact ac)[lp',g3];refine cd hkn ?_;simp(disch:=try exact ac)
 by_cases g4:(8:Int)<s.length
 .simp(disch:=try exact ac)[lp',ls',g3,g4];refine cd hkn ?_;simp(disch:=try exact ac)
 simp(disch:=try exact ac)[lp',ls',g3,g4];refine cd (PE s aa) ?_ (by simp[av,aP]);cases g5:s.any qM with
 | true=>
  simp(disch:=try exact ac);refine cd hkn ?_;simp(disch:=try exact ac)
 | false=>
  have hl:∀x∈s,x.1.length<=40∧x.2.length<=40:=by
   intro x hx;have:=List.any_eq_false.1 g5 x hx;simp[qM]at this;omega
  have hp9:p.length<1000000000:=aa;have sr:=yZ hp9 (fun x hx=>by have:=hl x hx;omega) (by omega:s.length<1000000000);have sg:=fun sg bits bs=>NM (p:=p) (s:=s) (sg:=sg) (bits:=bits) (bs:=bs) hp9 (fun x hx=>by have:=hl x hx;omega)
  simp(disch:=try exact ac);refine cd sr ?_ (by simp[av,aP]);by_cases hsz:r8 p s=true
  rotate_left
  .have e:tc p s 0 0 []=false:=by unfold tc;rw[if_neg hsz]
   have s0:=sg 0 0 [];rw[e]at s0;simp(disch:=try exact ac)[hsz];refine dX (vu (ds:=[lst di p,gR fi s,.agg [I 0,I 0,gR cD []]]) (by simp[av,aP,norm,gR];rfl) s0 ?_);simp(disch:=try exact ac)[gh]
  obtain⟨z1,z2,z3⟩:=GB hsz;obtain⟨l,rfl,ol⟩:=Oi z3;simp only[Zd]at z2;have hpc:pcB p=0:=by simpa using(J9 p).trans z1
  have hpp:∀x∈p,bw x=true:=by
   simp only[mX,Z8]at z1;exact G9 p none z1.1.1
  have p6:=wN z1
  have dec:∃(sg:Int)(n:Nat)(bs:List Bd)(e:Int),CP Y F.dG [lst di p,szV l] (.tup [cmV sg n bs,I e])∧(e≠0∨64<n∨(n<=64∧bs.length<=8∧(∀b∈bs,∃a,b.2.2=ag a∧ndg a<=400)∧tc p (l.map tx) sg n bs=true)):=by
   cases hz:(l.all fun a=>decide (a.1=0))with
   | true=>
    refine⟨0,0,[],0,TY hpc ol z2.symm aa hz,.inr (.inr ⟨ae,ae,(fun b hb=>by cases hb),?_⟩)⟩;unfold tc tb;rw[if_pos hsz,if_pos rfl,zC ol];simp[Kf l 0 hz]
   | false=>
    have d:=abe A hpc hpp ol z2.symm aa hz;cases hf:yf p l 6 32 with
    | none=>
     rw[hf]at d;exact⟨0,0,[],4,d,.inl ae⟩
    | some M=>
     rw[hf]at d;obtain⟨hM,hT⟩:=zT (.inl rfl) hf;obtain⟨hT2,hn⟩:=Da (tX p l M) 1001 0 M hT;refine⟨_,_,_,0,d,?_⟩;generalize bsGo (tX p l M) 1001 0 M=n at *;by_cases h64:64<n
     .exact .inr (.inl h64)
     .have bl:=BK M n p l;exact .inr (.inr ⟨aa,aa,LL A hM p l hpp,PD A hpp ol z2.symm hM hn aa hsz hz hT2⟩)
  obtain⟨sg1,n1,bs1,e1,dc,hc⟩:=dec;have dc:CP Y F.dG [lst di p,gR fi (l.map tx)] (.tup [cmV sg1 n1 bs1,I e1]):=dc;have ov:∀bs:List Bd,okV (gR cD bs)=true:=fun _=>rfl
  simp(disch:=try exact ac)[hsz];refine cd dc ?_ (by simp[av,aP]);by_cases he:e1=0
  rotate_left
  .simp(disch:=try exact ac)[ov,he]
  subst he;by_cases h64:(64:Int)<n1
  .simp(disch:=try exact ac)[ov,h64]
  have h64':¬64<n1:=aa
  obtain ⟨k1,k2,k3,k4⟩:n1<=64∧bs1.length<=8∧(∀b∈bs1,∃a,b.2.2=ag a∧ndg a<=400)∧tc p (l.map tx) sg1 n1 bs1=true:=by
   rcases hc with h|h|h
   .exact absurd rfl h
   .exact absurd h h64'
   .exact h
  obtain⟨sg2,n2,bs2,ch,bl2⟩:=Nk hk ha hb (sg:=sg1) k1 k2 k3
  have bl1:∀b∈bs1,b.2.2.length<1000:=fun b hb=>by
   obtain⟨a,e,h⟩:=k3 b hb;rw[e];unfold ag;rw[aS];omega
  have s1:=sg sg1 n1 bs1;have p1:=GL A (sg:=sg1) (n:=n1) hsz ol z2.symm aa bl1;have s2:=sg sg2 n2 bs2;have p2:=GL A (sg:=sg2) (n:=n2) hsz ol z2.symm aa bl2;rw[k4]at s1 p1;have p1:CP Y F.bK [lst di p,gR fi (l.map tx),cmV sg1 n1 bs1] (B true):=p1
  have p2:CP Y F.bK [lst di p,gR fi (l.map tx),cmV sg2 n2 bs2] (B (tc p (l.map tx) sg2 n2 bs2)):=p2;simp(disch:=try exact ac)[ov,h64];refine cd ch ?_ (by simp[av,aP,norm]);simp(disch:=try exact ac)[ov];refine cd s1 ?_ (by simp[av,aP,norm]);simp(disch:=try exact ac)
  refine cd p1 ?_ (by simp[av,aP,norm]);simp(disch:=try exact ac);refine cd s2 ?_ (by simp[av,aP,norm]);simp(disch:=try exact ac);refine cd p2 ?_ (by simp[av,aP,norm]);simp(disch:=try exact ac)
structure afG(b:Nat)(c:UInt8)(kb:Nat):Prop where
 hc:ag b=[c]
 c1:¬c=49
 c2:¬c=48
 b2:2<=b
 b8:b<=8
 hkb:eY b=kb
 k2:2<=kb
 k4:kb<=4
 n1:ndg b=1
variable{b:Nat}{c:UInt8}{kb:Nat}
def FW:Nat->List Q->Nat
 |d,[]=>d
 |d,x::s=>FW (Nat.lcm d x.2) s
def QV(d:Nat):LiQ->List Q->List (Int×Int)
 |p::ps,x::s=>if x.1=0 then QV d ps s else(p,x.1*((d/x.2:Nat):Int))::QV d ps s
 |_,_=>[]
def lg(p:Int)(n:Nat):Nat:=(wY p.toNat n).getD 0
def EO(n:Nat):List (Int×Int)->Int×Int->Int×Int
 |[],a=>a
 | t::ts,a=>
  let x:Int:=lg t.1 n
  let y:Int:=if t.1=2 then x else x+1
  EO n ts (if t.2<0 then(a.1+y*t.2,a.2+x*t.2)else(a.1+x*t.2,a.2+y*t.2))
def afc(n:Nat)(ts:List (Int×Int)):Prop:=∀t∈ts,2<=t.1∧t.1<1000000∧(wY t.1.toNat n).isSome=true∧ndg (lg t.1 n)<=1500
def Ih(most:Int):List (Int×Int)->Int×Int->Option (Int×Int)
 |[],a=>some a
 | t::ts,a=>if most<t.2∨t.2 < -most then none else match adm t.1.toNat with
  |none=>none
  | some f=>
   let b:Int:=if t.1=2 then f else f+1
   Ih most ts (a.1+min (t.2*f) (t.2*b),a.2+max (t.2*f) (t.2*b))
def okT(ts:List (Int×Int)):Prop:=ts.length<=600∧∀t∈ts,2<=t.1∧t.1<1000000∧t.2.natAbs<9223372036854775808
def R2(ts:List (Int×Int)):Int:=match Ih 10000000 ts (0,0)with
 |none=>0
 |some a=>if 0<=a.1 then 1 else if a.2<=0 then -1 else 0
def SS(ts:List (Int×Int)):Prop:=∀i,i<6->afc (64*2^i) ts
def acn(ts:List (Int×Int)):Nat->Nat->Option Int
 |0,_=>none
 |r+1,n=>if 0<=(EO n ts (0,0)).1 then some 1 else if(EO n ts (0,0)).2<=0 then some (-1)else acn ts r (n*2)
def acm(ts:List (Int×Int)):Option Int:=match ts with
 |[]=>some 0
 |_=>if R2 ts≠0 then some (R2 ts)else acn ts 6 64
def tq(p:LiQ)(s:List Q):List (Int×Int):=QV (FW 1 s) p s
def aco(p:LiQ)(s:List Q)(z:Int):Prop:=okT (tq p s)∧SS (tq p s)∧acm (tq p s)=some z
def dfS(p:LiQ)(a b:List Q):List Q:=Mh p.length [a,b] [(1,1),(-1,1)]
def abu(z:Int):Int:=max z (-z)*(2*max z 0-1)
def afC(p:LiQ)(s:List Q)(z:Int):List Q:=Mh p.length [s] [(abu z,1)]
def acy(x y:Int×Int)(d g:Int):Option Int:=
 let z:(Int×Int)×(Int×Int):=if y.2<=0 then((-x.2,-x.1),(-y.2,-y.1))else(x,y)
 if z.2.1<=0 then none else
  let low:=if z.1.1<0 then z.2.1 else z.2.2
  let high:=if z.1.2<0 then z.2.2 else z.2.1
  if z.1.1*g/(low*d)=z.1.2*g/(high*d)then some (z.1.1*g/(low*d))else none
def acx(tx ty:List (Int×Int))(d g:Nat):Option Int:=match Ih 100000 tx (0,0),Ih 100000 ty (0,0)with
 |some x,some y=>if 10000<d∨10000<g then none else acy x y d g
 |_,_=>none
def acG(ts:List (Int×Int)):Prop:=ts.length<=8∧∀t∈ts,2<=t.1∧t.1<128∧t.2.natAbs<9223372036854775808
def RX:Q->List Q->List Q->Q
 |k,x::a,y::b=>RX (if y.1=0 then k else J3 x y) a b
 |k,_,_=>k
def RU(k:Q):List Q->List Q->Bool
 |x::a,y::b=>decide (nW k y=x)&&RU k a b
 |_,_=>true
def adk(tx ty:List (Int×Int))(d g:Int):Nat->Nat->Option Int
 |0,_=>none
 | r+1,n=>match acy (EO n tx (0,0)) (EO n ty (0,0)) d g with
  |some q=>some q
  |none=>adk tx ty d g r (n*2)
def adl(p:LiQ)(a b:List Q)(q:Int):Prop:=
 (RU (RX (0,1) a b) a b=true∧q=(RX (0,1) a b).1/((RX (0,1) a b).2:Int)) ∨
 (RU (RX (0,1) a b) a b=false∧acG (tq p a)∧acG (tq p b)∧FW 1 a<9223372036854775808∧FW 1 b<9223372036854775808 ∧
  ((acx (tq p a) (tq p b) (FW 1 a) (FW 1 b)=some q∧-9223372036854775808<q∧q<9223372036854775808) ∨
   (acx (tq p a) (tq p b) (FW 1 a) (FW 1 b)=none∧SS (tq p a)∧SS (tq p b)∧(∀i,i<6->(EO (64*2^i) (tq p b) (0,0)).1<=(EO (64*2^i) (tq p b) (0,0)).2)∧adk (tq p a) (tq p b) (FW 1 a) (FW 1 b) 6 64=some q)))
def aeQ(p:LiQ)(a b:List Q):List Q:=Mh p.length [a,b] [(2,1),(1,1)]
def aeP(p:LiQ)(b:List Q):List Q:=Mh p.length [b] [(2,1)]
def Gw(p:LiQ)(n:Nat):List Q:=Mh p.length [WN p.length] [(1,n)]
def Md(p:LiQ)(n:Nat)(q:Int):List Q:=Mh p.length [Gw p n] [(q,1)]
def Og(p:LiQ)(n:Nat)(q:Int)(s:List Q):List Q:=Mh p.length [Md p n q,s] [(1,1),(-1,1)]
structure adG(p:LiQ)(n:Nat)(r:LiQ)(q:Int):Prop where
 hp:pcB p=0
 hN:p.length<=20
 hl:0<p.length
 h0:0<n
 h1:n<=10000
 lr:r.length=p.length
 sr:smR r=true
 st:okS (Gw p n)
 of:okS (ofQ r)
 ne:tq p (Gw p n)≠[]
 fl:adl p (aeQ p (ofQ r) (Gw p n)) (aeP p (Gw p n)) q
 q1 : -1000000000000000000<q
 q2:q<1000000000000000000
 ti:okS (Md p n q)
 er:okS (Og p n q (ofQ r))
def Uw(p:LiQ)(n:Nat)(r:LiQ)(q z:Int):List Q:=afC p (Og p n q (ofQ r)) z
structure afT(p r:LiQ)(lim:Nat)(qf zf:Nat->Int)(ls:Nat->Nat->Bool):Prop where
 er:∀n,1<=n->n<=lim->adG p n r (qf n)
 sg:∀n,1<=n->n<=lim->aco p (Og p n (qf n) (ofQ r)) (zf n)∧-1<=zf n∧zf n<=1
 ok:∀n,1<=n->n<=lim->okS (Uw p n r (qf n) (zf n))
 cm:∀n m,1<=m->m<n->n<=lim->∃z,aco p (dfS p (Uw p n r (qf n) (zf n)) (Uw p m r (qf m) (zf m))) z∧decide (z<0)=ls n m
def abb:LiQ->LiQ->Int
 |a::r,b::t=>a*b+abb r t
 |_,_=>0
structure afY where
 w:LiQ
 s:Int
 u:LiQ
def lgI(n:Nat)(p:Int):Int:=(lg p n:Int)
def c6P:LiQ:=[2,3,5]
def lgCb(n:Nat)(p:Int):Bool:=(wY p.toNat n).isSome&&decide (2^n<=lg p n)&&decide (lg p n+1<=8*2^n)
def rp(b:Nat)(x:Q)(a:Int):Prop:=okQ x∧x.1*(b:Int)=a*(x.2:Int)
theorem Rn{b:Nat}{x:Q}(h:rp b x a):x.2∣b:=by
 have h1:x.1.natAbs*b=a.natAbs*x.2:=by
  have:=congrArg Int.natAbs h.2;simpa[Y3]using this
 have h2:x.2∣x.1.natAbs*b:=⟨a.natAbs,by rw[h1,Zw]⟩;exact Nat.Coprime.dvd_of_dvd_mul_left (Nat.Coprime.symm h.1.2) h2
theorem aaq{b:Nat}{x:Q}(hb:0<b)(h:rp b x a):x.1.natAbs*(b/x.2)=a.natAbs:=by
 obtain⟨m,hm⟩:=Rn h
 have h1:x.1.natAbs*b=a.natAbs*x.2:=by
  have:=congrArg Int.natAbs h.2;simpa[Y3]using this
 have p:=h.1.1;rw[hm,Nat.mul_div_cancel_left _ p];refine Nat.eq_of_mul_eq_mul_right p ?_;rw[<-h1,hm,Nat.mul_assoc,Zw m]
theorem acs{b:Nat}{x:Q}(hb:0<b)(h:rp b x a):x.1.natAbs<=a.natAbs∧x.2<=b:=by have h1:=aaq hb h;have h2:=V9 hb (Rn h);have h3:1<=b/x.2:=(Wu h.1.1).2 aa;refine⟨?_,h2⟩;rw[<-h1];exact Yw _ h3
def bdL(b B:Nat)(s:List Q):Prop:=∀x∈s,∃a:Int,rp b x a∧a.natAbs<=B
theorem abm{b B:Nat}(hb:0<b)(h:bdL b B s)(h1:b<1000000000000000000000000000000)(h2:B<1000000000000000000000000000000):okS s:=fun x hx=>by
 obtain⟨a,r1,r2⟩:=h x hx;obtain⟨l1,l2⟩:=acs hb r1;exact⟨r1.1,cg (d:=30) (by show _<10^30;omega) ae,cg (d:=30) (by show _<10^30;omega) ae⟩
def in6(p:LiQ):Prop:=p.Nodup∧p.length<=6∧∀x∈p,x∈c6P
structure afV(p:LiQ)(n:Nat)(r:LiQ)(q:Int):Prop where
 hp:pcB p=0
 hN:p.length<=20
 hl:0<p.length
 h0:0<n
 h1:n<=10000
 lr:r.length=p.length
 sr:smR r=true
 st:okS (Gw p n)
 of:okS (ofQ r)
 q1 : -1000000000000000000<q
 q2:q<1000000000000000000
 ti:okS (Md p n q)
 er:okS (Og p n q (ofQ r))
def ae6:LLQ:=[[2,3,5],[2,3],[2,3,5,7],[2,3,7],[3,5,7],[2],[2,5,7],[2,3,11],[2,3,5,13],[2,3,7,11]]
abbrev Rw:=LiQ
structure afX(p:LiQ)(n:Nat)(l:List Rw)(qf:Rw->Int):Prop where
 hN:l.length<=60
 hE:∀r∈l,adG p n r (qf r)
def p13(k:Nat):LiQ:=ae6.getD (k%10) []
end Go.Vm
