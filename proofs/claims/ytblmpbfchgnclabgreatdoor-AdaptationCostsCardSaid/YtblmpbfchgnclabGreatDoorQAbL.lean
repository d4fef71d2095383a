/- Lemmas. -/
import Derived.Test.YtblmpbfchgnclabGreatDoorQAbC
import Derived.ProofKit
import Derived.OpenShut
import Derived.Deep.DeepHandedRow
import Derived.Deep.Matrix
import Derived.Lib.LaidTab
import Derived.Test.YtblmpbfchgnclabGreatDoorTie
import Derived.Test.YtblmpbfchgnclabGreatDoorCards
set_option linter.unusedVariables false
set_option linter.unusedSimpArgs false
namespace Go.Vm
open Go Go.Am Go.Big
variable{m Bd i j n fuel o:Nat}{k:IntKind}{α:Type}{f:Nat->Int}{clr:LnQ}{h h1:Hp}{vs:LvQ}{ds:LdQ}{t:TypeId}
theorem Bt(p:LiQ):∀(m:Nat)(l:List LLQ)(s:List (List LLQ)),m<l.length->l.length<=s.length->nth [] (dQ p l s) m=(dQ p (l.drop m) (s.drop m)).headD []
 | 0,l,s,_,_=>by
  rw[Zj,Zj];cases dQ p l s<;>rfl
 |m+1,[],s,h,_=>by rfl
 |m+1,[o],s,h,_=>by simp at h
 |m+1,o::o2::os,[],_,h=>by simp at h
 | m+1,o::o2::os,ss::sss,h,h2=>by
  have:=Bt p m (o2::os) sss (by grind) (by grind);trivial
section
variable{p:LiQ}{b B:Nat}{owns:List LLQ}{steps:List (List LLQ)}
theorem xA.rest_at(P:xA p b B owns steps)(hm:m<owns.length):(nth [] (dQ p owns steps) m).length=(nth [] owns m).length∧okR p 200000000 (nth [] (dQ p owns steps) m):=by
 have hl:=P.hl;have five:=P.five;have mem:nth [] (dQ p owns steps) m∈dQ p owns steps:=aQ (d:=[]) (by grind[oI]);refine⟨?_,?_⟩
 .rw[Bt p m owns steps hm aa];by_cases h1:m+1<owns.length
  .have e1:owns.drop m=nth [] owns m::nth [] owns (m+1)::owns.drop (m+1+1):=by rw[Z0 hm,aN _ _ _ hm,Z0 h1,aN _ _ _ h1]
   have e2:steps.drop m=nth [] steps m::steps.drop (m+1):=by rw[Z0 aa,aN _ _ _ aa]
   grind[dQ,wZ,hs]
  .have e1:owns.drop m=[nth [] owns m]:=by rw[Z0 hm,aN _ _ _ hm,Xe aa]
   rw[e1];rfl
 .have:=P.rests (owns.length-1) 0 aa;rw[Zj,Zj]at this;exact tb (this _ mem).2.2 (P.le aa)
theorem ZM{x y:LiQ}(hx:x.length=p.length∧bdN Bd x)(hy:y.length=p.length∧bdN Bd y):
  (sN (List.replicate p.length 0) [x,y]).length=p.length∧bdN (Bd+Bd) (sN (List.replicate p.length 0) [x,y]):=by simp only[sN];rw[sL 1 hx.1,Jk];exact⟨by rw[hQ _ aa,hx.1],lE hx.2 hy.2⟩
end
variable{a:Ad}
theorem mF(a:Ad):(kG a).length=a.cd.length:=by simp[kG]
theorem uW(a:Ad):(gO a).length=a.cd.length:=by simp[gO]
theorem w9{k:Nat}(hk:k<a.cd.length):nth [] (kG a) k=mX a k:=by grind[kG,jH]
theorem G9{k:Nat}(hk:k<a.cd.length):nth [] (gO a) k=ko a k:=by grind[gO,jH]
theorem Q7{k:Nat}(hi:i<(nth [] a.cd k).length):nth [] (ko a k) i=lV a k i:=by grind[ko,jH]
theorem Q6{k:Nat}(hj:j<(nth [] a.cd (k+1)).length):nth [] (lV a k i) j=stW a k i j:=by grind[lV,jH]
theorem PL(G:cI a){k:Nat}(hk:k<a.cd.length):(nth [] (rA a) k).length=(nth [] a.cd k).length∧okR a.p 200000000 (nth [] (rA a) k):=by
 obtain⟨h1,h2⟩:=G.pre.rest_at (m:=k) (by grind[mF])
 grind[rA,w9,mX]
def cst(a:Ad)(k c i:Nat):LiQ:=if k=0 then nth [] (nth [] (rA a) k) i else sN (List.replicate a.p.length 0) [stW a (k-1) c i,nth [] (nth [] (rA a) k) i]
def csC(a:Ad)(k c n:Nat):LdQ:=(List.range n).map fun i=>szE a.w.2 (cst a k c i)
theorem WY(a:Ad)(k c n:Nat):csC a k c (n+1)=csC a k c n++[szE a.w.2 (cst a k c n)]:=by simp[csC,Y3]
theorem aey(G:cI a){k c:Nat}(hk:k<a.cd.length)(hc:k=0∨c<(nth [] a.cd (k-1)).length)(hi:i<(nth [] a.cd k).length):(cst a k c i).length=a.p.length∧bdN 400000000 (cst a k c i):=by
 obtain⟨r1,r2⟩:=PL G hk;have hcl:=G.cl;have hlen:=G.wk.len;have rr:=r2 _ (aQ (d:=[]) (show i<(nth [] (rA a) k).length by omega));unfold cst;by_cases h:k=0
 .grind[qV]
 .rw[if_neg h];obtain⟨m,rfl⟩:∃m,k=m+1:=⟨k-1,aa⟩;have:=G.stepW (i:=m) (f:=c) (t:=i) aa (hc.resolve_left h) hi;exact ZM (Bd:=200000000) ⟨this.1,qV this.2 aa⟩ rr
theorem E4(A:Acc)(L:Nat)(c:LdQ):bj (A.v L c)=some (I L):=by cases L<;>rfl
theorem acZ(G:cI a){k c:Nat}(hk:k<a.cd.length)(hc:k=0∨c<(nth [] a.cd (k-1)).length){ch:V}{s3:Nat×Bk}(hch:0<k->∀s2,∃w,ixV (bsH a s2 s3) 1 ch (I ((k:Int)-1))=some w∧ld1 (bsH a s2 s3) w=some (I c))(H0:Hp)(hh:H0.length=5)(K:KL) :
  ∀(m i:Nat),i+m=(nth [] a.cd k).length->K (.exit 2) [ch,tB.v (nth [] a.cd k).length (csC a k c (nth [] a.cd k).length)] (bsH a (tB.b (nth [] a.cd k).length (csC a k c (nth [] a.cd k).length)) s3) ->
  lp (jy (CX Y) (.ptr 1 1 0 3) (I k) (.d (szL a.w.2 (nth [] (rA a) k))) (I (nth [] a.cd k).length)) [] H0 [ch,tB.v i (csC a k c i),I i] (bsH a (tB.b i (csC a k c i)) s3) K
 | 0,i,hi,hK=>by
  have ei:(nth [] a.cd k).length=i:=aa;rw[ei]at hK ⊢;refine aj ?_;simp[jy];exact hK
 | m+1,i,hi,hK=>by
  have h5:=G.five;have hcl:=G.cl;have hlen:=G.wk.len;obtain⟨w1,w2,w3,w4⟩:=G.w0;have hn20:(nth [] a.cd k).length<=20:=(G.cn _ (aQ (d:=[]) hk)).2;obtain⟨r1,r2⟩:=PL G hk;have ih:=acZ G hk hc hch H0 hh K m (i+1) aa hK;rw[WY]at ih
  have i1:∀H:Hp,ixV H 1 (.d (szL a.w.2 (nth [] (rA a) k))) (I i)=some (.dptr ((nth [] (rA a) k).map fun r=>szD (szI a.w.2 r)) i):=fun H=>aJ (fun r=>szD (szI a.w.2 r)) _ H rfl aa
  have i2:∀H:Hp,ld1 H (.dptr ((nth [] (rA a) k).map fun r=>szD (szI a.w.2 r)) i)=some (szV (szI a.w.2 (nth [] (nth [] (rA a) k) i))):=fun H=>aC (fun r=>szD (szI a.w.2 r)) [] _ H aa
  have g:(i:Int)<(nth [] a.cd k).length:=aa;have c1:(csC a k c i).length=i*1:=by simp[csC]
  have li:∀x H,cO 1 [nPQ] [(0,szV (szI a.w.2 x))] H=some ([szE a.w.2 x],H):=fun x H=>by
   rfl
  have hre:∀s,au [] 0 H0 (bsH a s s3)=bsH a s s3:=fun s=>aX 0 H0 _ (by rw[hh];rfl)
  have g2:biI .add (I i) (.d (.int .i64 1))=some (I ((i+1:Nat):Int)):=wE aa
  have fin:∀(q:kkQ)(u:PU q),q (tB.v (i+1) (csC a k c i++[szE a.w.2 (cst a k c i)])) (bsH a (tB.b (i+1) (csC a k c i++[szE a.w.2 (cst a k c i)])) s3)->rh (apV false 2 1 24 (tB.v i (csC a k c i)) (.d (.sl 1 [szE a.w.2 (cst a k c i)])) (bsH a (tB.b i (csC a k c i)) s3)) q u:=fun q u hq=>
   hO tB (L:=i) (k:=1) (cells:=csC a k c i) (cs:=[szE a.w.2 (cst a k c i)]) aa rfl c1 rfl rfl (fun t e=>by cases e) aa ae hq
  obtain⟨s2,hs2⟩:∃s,s=tB.b i (csC a k c i):=⟨_,rfl⟩;obtain⟨v2,hv2⟩:∃s,s=tB.v i (csC a k c i):=⟨_,rfl⟩;rw[<-hs2,<-hv2]at fin ⊢;refine aj ?_;by_cases h0:k=0
  .subst h0;have ec:cst a 0 c i=nth [] (nth [] (rA a) 0) i:=rfl;rw[ec]at fin ih;simp[jy,g,i1,i2];refine aT ?_;simp[li]
   simp_all
  .obtain⟨l,rfl⟩:∃l,k=l+1:=⟨k-1,aa⟩;have hcl':c<(nth [] a.cd l).length:=hc.resolve_left h0;have hl:l<a.cd.length:=aa;have ec:cst a (l+1) c i=sN (List.replicate a.p.length 0) [stW a l c i,nth [] (nth [] (rA a) (l+1)) i]:=rfl;have sw:=G.stepW (i:=l) (f:=c) (t:=i) aa hcl' aa;have rr:=r2 _ (aQ (d:=[]) (show i<(nth [] (rA a) (l+1)).length by omega))
   have ga:=Qs G.hp (ia a.w.2 (kG a)) (lK a.w.2 (gO a)) w1.1 aa (B:=200000000) aa (m:=[stW a l c i,nth [] (nth [] (rA a) (l+1)) i]) (fun d hd=>by
    grind[qV]) af
   rw[<-ec]at ga;obtain⟨w,x1,x2⟩:=hch aa s2;have el:((l+1:Nat):Int)-1=(l:Int):=aa;rw[el]at x1;have f2:ld1 (bsH a s2 s3) (.ptr 1 1 2 3)=some (.d (lK a.w.2 (gO a))):=rfl;have f2':=(mu _ _ _ _ _).symm.trans f2;have j1:∀H:Hp,ixV H 1 (.d (lK a.w.2 (gO a))) (I l)=some (.dptr ((gO a).map (ia a.w.2)) l):=fun H=>aJ (ia a.w.2) _ H rfl (by grind[uW])
   have j2:∀H:Hp,ld1 H (.dptr ((gO a).map (ia a.w.2)) l)=some (.d (ia a.w.2 (ko a l))):=fun H=>by rw[aC (ia a.w.2) [] _ H (by grind[uW]),G9 hl]
   have j3:∀H:Hp,ixV H 1 (.d (ia a.w.2 (ko a l))) (I c)=some (.dptr ((ko a l).map (szL a.w.2)) c):=fun H=>aJ (szL a.w.2) _ H rfl (by grind[ko])
   have j4:∀H:Hp,ld1 H (.dptr ((ko a l).map (szL a.w.2)) c)=some (.d (szL a.w.2 (lV a l c))):=fun H=>by rw[aC (szL a.w.2) [] _ H (by grind[ko]),Q7 hcl']
   have j5:∀H:Hp,ixV H 1 (.d (szL a.w.2 (lV a l c))) (I i)=some (.dptr ((lV a l c).map fun r=>szD (szI a.w.2 r)) i):=fun H=>aJ (fun r=>szD (szI a.w.2 r)) _ H rfl (by grind[lV])
   have j6:∀H:Hp,ld1 H (.dptr ((lV a l c).map fun r=>szD (szI a.w.2 r)) i)=some (szV (szI a.w.2 (stW a l c i))):=fun H=>by rw[aC (fun r=>szD (szI a.w.2 r)) [] _ H (by grind[lV]),Q6 aa];rfl
   have li3:∀H,cO 2 [nPQ] [(0,szV (szI a.w.2 (stW a l c i))),(1,szV (szI a.w.2 (nth [] (nth [] (rA a) (l+1)) i)))] H=some ([szD (szI a.w.2 (stW a l c i)),szD (szI a.w.2 (nth [] (nth [] (rA a) (l+1)) i))],H):=fun H=>by
    rfl
   have sn:aS (bsH a s2 s3) [.ptr 1 1 0 3,.d (.sl 2 [szD (szI a.w.2 (stW a l c i)),szD (szI a.w.2 (nth [] (nth [] (rA a) (l+1)) i))])]=some ([.dptr (gD a.p (ia a.w.2 (kG a)) (lK a.w.2 (gO a))) 0,lst szD ([stW a l c i,nth [] (nth [] (rA a) (l+1)) i].map (szI a.w.2))],bsH a s2 s3):=by rfl
   have gl:(0:Int)<((l+1:Nat):Int):=aa;simp[jy,g,gl,i1,i2];refine aT ?_;simp(disch:=try exact ag)[el,f2,f2',j1,j2,x1,x2,j3,j4,j5,j6,li3];refine cdx sn ga ?_;simp;simp[li]
   simp_all
def mf(a:Ad)(k c:Nat):LLQ:=(List.range (nth [] a.cd k).length).map (cst a k c)
theorem aez(a:Ad)(k c:Nat):(mf a k c).map (szE a.w.2)=csC a k c (nth [] a.cd k).length:=by simp[mf,csC]
def vU(a:Ad):Nat->Nat->Nat->LnQ
 |0,_,_=>[]
 |m+1,k,c=>rU a.p (mf a k c)::vU a m (k+1) (rU a.p (mf a k c))
def fV(a:Ad):LnQ:=vU a a.cd.length 0 0
def dn(n:Nat):D:=di (n:Int)
theorem Vo(z:Int)(H:Hp):cO 1 [D.int IntKind.i64 0] [(0,I z)] H=some ([di z],H):=by rfl
theorem ac0(G:cI a)(H0:Hp)(hh:∃s3,H0=bsH a nnQ s3)(K:KL) :
  ∀(m:Nat)(cs:LnQ)(c:Nat),cs.length+m=a.cd.length->(∀x l,cs=l++[x]->x=c)->(0<cs.length->c<(nth [] a.cd (cs.length-1)).length) ->
  (K (.exit 0) [qS.v a.cd.length ((cs++vU a m cs.length c).map dn)] (bsH a nnQ (qS.b a.cd.length ((cs++vU a m cs.length c).map dn)))) ->
  lp (mp (CX Y) (.ptr 1 1 0 3) (.d (ia a.w.2 (rA a))) (I (rA a).length)) [2] H0 [qS.v cs.length (cs.map dn),I cs.length] (bsH a nnQ (qS.b cs.length (cs.map dn))) K
 | 0,cs,c,hk,_,_,hK=>by
  have hr:(rA a).length=a.cd.length:=by unfold rA;rw[oI,mF]
  have e:(rA a).length=cs.length:=aa;simp only[vU,Y8]at hK;have e2:a.cd.length=cs.length:=aa;rw[e2]at hK;rw[e];refine aj ?_;simp[mp];exact hK
 | m+1,cs,c,hk,hc1,hc2,hK=>by
  have hr:(rA a).length=a.cd.length:=by unfold rA;rw[oI,mF]
  have h5:=G.five;have hcl:=G.cl;have hkc:cs.length<a.cd.length:=aa;obtain⟨w1,w2,w3,w4⟩:=G.w0;obtain⟨n0,hn20⟩:=G.cn _ (aQ (d:=[]) hkc);obtain⟨r1,r2⟩:=PL G hkc
  have hcc:cs.length=0∨c<(nth [] a.cd (cs.length-1)).length:=by
   by_cases h:cs.length=0
   .omega
   .exact .inr (hc2 aa)
  have i1:∀H:Hp,ixV H 1 (.d (ia a.w.2 (rA a))) (I cs.length)=some (.dptr ((rA a).map (szL a.w.2)) cs.length):=fun H=>aJ (szL a.w.2) _ H rfl aa
  have i2:∀H:Hp,ld1 H (.dptr ((rA a).map (szL a.w.2)) cs.length)=some (.d (szL a.w.2 (nth [] (rA a) cs.length))):=fun H=>aC (szL a.w.2) [] _ H aa
  have lm:bj (.d (szL a.w.2 (nth [] (rA a) cs.length)))=some (I (nth [] a.cd cs.length).length):=by rw[<-r1];rfl
  have g:(cs.length:Int)<(rA a).length:=aa;have ckl:(mf a cs.length c).length=(nth [] a.cd cs.length).length:=by simp[mf]
  have hlt:=yc (p:=a.p) (cs:=mf a cs.length c) aa;have l1:=fun(ch:V)(s3:Nat×Bk) (hch) (K2)=>acZ G hkc hcc (ch:=ch) (s3:=s3) hch (bsH a nnQ s3) rfl K2 (nth [] a.cd cs.length).length 0 (Zp _)
  have okc:okR a.p 400000000 (mf a cs.length c):=fun r hr=>by
   grind[mf,aey]
  have l2:=fun(s3:Nat×Bk)(H:Hp)(hH:H.length=5)(K2:KL)=>acY G.hp w1.1 aa (Bd:=400000000) aa a (ia a.w.2 (kG a)) (lK a.w.2 (gO a)) rfl okc aa aa s3 H hH K2 (mf a cs.length c) [] 0 rfl aa
  rw[ckl,aez]at l2;have hl3:(cs.map dn).length=cs.length*1:=af
  have hch:0<cs.length->∀s2,∃w,ixV (bsH a s2 (qS.b cs.length (cs.map dn))) 1 (qS.v cs.length (cs.map dn)) (I ((cs.length:Int)-1))=some w∧ld1 (bsH a s2 (qS.b cs.length (cs.map dn))) w=some (I c):=fun hp s2=>by
   obtain⟨n,hn⟩:∃n,cs.length=n+1:=⟨cs.length-1,aa⟩;have hs:(bsH a s2 (qS.b cs.length (cs.map dn)))[3]?=some (1,.data 1 (cs.map dn) false false):=by rw[hn];rfl
   have hv:qS.v cs.length (cs.map dn)=.ref 3 1 0 cs.length cs.length cs.length:=by
    have:(cs.map dn).length=cs.length:=List.length_map _
    conv=>lhs;rw[hn]
    simp only[Acc.v,qS,this,hn]
   have x1:=ixB (f:=dn) hs rfl (i:=cs.length-1) aa .i64;have x2:=ldB (f:=dn) 0 hs rfl (i:=cs.length-1) aa
   have ec:nth 0 cs (cs.length-1)=c:=by
    have hne:cs≠[]:=by rintro rfl;simp at hp
    have e:cs=cs.dropLast++[cs.getLast hne]:=(List.dropLast_concat_getLast hne).symm;have e2:(cs.dropLast).length=cs.length-1:=List.length_dropLast;rw[<-hc1 _ _ e,<-e2]
    conv=>lhs;arg 2;rw[e]
    exact bM ..
   rw[ec]at x2;have ei:((cs.length-1:Nat):Int)=(cs.length:Int)-1:=aa;rw[ei]at x1;rw[hv];exact⟨_,x1,x2⟩
  have ih:=ac0 G H0 hh K m (cs++[rU a.p (mf a cs.length c)]) (rU a.p (mf a cs.length c)) (by grind) (fun x l e=>by
   grind [List.append_inj_right']) (fun _=>by simpa using by omega) (by
    have e:(cs++[rU a.p (mf a cs.length c)]).length=cs.length+1:=af
    grind[vU])
  refine aj ?_;simp[mp,g,i1,i2,lm];refine lo (l1 _ _ hch _ ?_);have la:bj (tB.v (nth [] a.cd cs.length).length (csC a cs.length c (nth [] a.cd cs.length).length))=some (I (nth [] a.cd cs.length).length):=E4 ..;obtain⟨v3,hv3⟩:∃s,s=qS.v cs.length (cs.map dn):=⟨_,rfl⟩;obtain⟨s3,hs3⟩:∃s,s=qS.b cs.length (cs.map dn):=⟨_,rfl⟩
  have fin:∀(x:D)(s2:Nat×Bk)(q:kkQ)(u:PU q),q (qS.v (cs.length+1) (cs.map dn++[x])) (bsH a s2 (qS.b (cs.length+1) (cs.map dn++[x])))->rh (apV false 3 1 8 v3 (.d (.sl 1 [x])) (bsH a s2 s3)) q u:=fun x s2 q u hq=>by
   rw[hv3,hs3];exact hO qS (L:=cs.length) (k:=1) (cells:=cs.map dn) (cs:=[x]) aa rfl hl3 rfl rfl (fun t e=>by cases e) aa ae hq
  rw[<-hv3,<-hs3];simp[la];refine lo (l2 _ _ rfl _ ?_);simp[Vo];refine fin _ _ _ .mk ?_;have g2:biI .add (I cs.length) (.d (.int .i64 1))=some (I ((cs.length+1:Nat):Int)):=wE aa
  show bnd _ _
  rw[g2];obtain⟨y,rfl⟩:=hh;have o1:∀L c,kH [2] (qS.v L c)=true:=fun L c=>gL _ _ _ _ rfl
  have o3:∀L c,offB [2] (qS.b L c).2=true:=fun L c=>fO _ _ _ _ rfl
  have oa:offB [2] (adB a).2=true:=rfl;refine⟨?_,?_⟩
  .rfl
  .have er:∀s2 s3,au [2] 0 (bsH a nnQ y) (bsH a s2 s3)=bsH a nnQ s3:=fun _ _=>rfl
   rw[er];have ed:cs.map dn++[di (tC a.p (mf a cs.length c) 0 0 (mf a cs.length c):Nat)]=(cs++[rU a.p (mf a cs.length c)]).map dn:=by simp[dn,rU]
   have el:(cs++[rU a.p (mf a cs.length c)]).length=cs.length+1:=af
   grind
theorem Ce(a:Ad):∀(m k c:Nat),(vU a m k c).length=m
 |0,_,_=>rfl
 |m+1,k,c=>by simp only[vU,List.length_cons,Ce a m]
def k8(a:Ad):LiQ:=nth [] (nth [] (rA a) 0) (nth 0 (fV a) 0)
theorem QW(G:cI a):CP Y F.gH [.agg (adC a)] (.tup [.d (.sl a.cd.length ((fV a).map dn)),szV (szI a.w.2 (k8 a)),I 0]):=by
 refine A0 ?_;have h5:=G.five;have hcl:=G.cl;have hlen:=G.wk.len;obtain⟨hin,hp0⟩:=eh G.hp;have hNp:=hin.2.1;have ck:=G.check;have we:=SJ G (h:=[adB a,nnQ,nnQ,nnQ,nnQ]) rfl;have re:CP Y F.cE [.dptr (grD a) 0] (.tup [.d (ia a.w.2 (rA a)),I 0]):=Ua G.pre.cost
 have bx:=xy (a:=a) 0 [nnQ,nnQ,nnQ,nnQ,nnQ] [adB a,nnQ,nnQ,nnQ,nnQ] rfl rfl;have l6:ldA [adB a,nnQ,nnQ,nnQ,nnQ] 6 (.ptr 0 1 0 6)=some (.agg (adC a)):=rfl
 have sn:aS ([adB a,nnQ,nnQ,nnQ,nnQ].set 1 (0+1,.vars ((grD a).map .d))) [.ptr 1 (0+1) 0 (grD a).length]=some ([.dptr (grD a) 0],bsH a nnQ nnQ):=rfl;have lR:bj (.d (ia a.w.2 (rA a)))=some (I (rA a).length):=rfl;have hr:(rA a).length=a.cd.length:=by unfold rA;rw[oI,mF]
 have h0c:0<a.cd.length:=aa;obtain⟨r1,r2⟩:=PL G h0c;obtain⟨n,hn⟩:∃n,a.cd.length=n+1:=⟨a.cd.length-1,aa⟩;have bl:(fV a).length=a.cd.length:=Ce ..
 have b0:nth 0 (fV a) 0<(nth [] (rA a) 0).length:=by
  have:nth 0 (fV a) 0=rU a.p (mf a 0 0):=by unfold fV;rw[hn];rfl
  rw[this,r1];have hlt:=yc (p:=a.p) (cs:=mf a 0 0) (by grind[cI.cn,aQ,mf]);simpa[mf]using hlt
 have rr:=r2 _ (aQ (d:=[]) b0);have i1:∀H:Hp,ixV H 1 (.d (ia a.w.2 (rA a))) (.d (.int .i64 0))=some (.dptr ((rA a).map (szL a.w.2)) 0):=fun H=>aJ (szL a.w.2) _ H rfl aa
 have i2:∀H:Hp,ld1 H (.dptr ((rA a).map (szL a.w.2)) 0)=some (.d (szL a.w.2 (nth [] (rA a) 0))):=fun H=>aC (szL a.w.2) [] _ H aa
 have i3:∀H:Hp,ixV H 1 (.d (szL a.w.2 (nth [] (rA a) 0))) (I (nth 0 (fV a) 0:Nat))=some (.dptr ((nth [] (rA a) 0).map fun r=>szD (szI a.w.2 r)) (nth 0 (fV a) 0)):=fun H=>aJ (fun r=>szD (szI a.w.2 r)) _ H rfl b0
 have i4:∀H:Hp,ld1 H (.dptr ((nth [] (rA a) 0).map fun r=>szD (szI a.w.2 r)) (nth 0 (fV a) 0))=some (szV (szI a.w.2 (k8 a))):=fun H=>aC (fun r=>szD (szI a.w.2 r)) [] _ H b0
 have hs:(bsH a nnQ (qS.b a.cd.length ((fV a).map dn)))[3]?=some (1,.data 1 ((fV a).map dn) false false):=by rw[hn];rfl
 have hv:qS.v a.cd.length ((fV a).map dn)=.ref 3 1 0 a.cd.length a.cd.length a.cd.length:=by
  have:((fV a).map dn).length=a.cd.length:=by rw[List.length_map,bl]
  conv=>lhs;rw[hn]
  simp only[Acc.v,qS,this,hn]
 have x1:=ixB (f:=dn) hs bl (i:=0) h0c .i64;have x2:=ldB (f:=dn) 0 hs bl (i:=0) h0c;have csz:=OJ (h:=bsH a nnQ (qS.b a.cd.length ((fV a).map dn))) (l:=szI a.w.2 (k8 a)) (by rw[hn];rfl) (by grind[ci,k8]) (by grind[ci,k8])
 have main:=ac0 G (bsH a nnQ nnQ) ⟨_,rfl⟩ (exK [(Exit.exit 0,fun l15 h=>
   bnd (ixV h 1 (.d (ia a.w.2 (rA a))) (.d (.int .i64 0))) fun v16=>
   bnd (ld1 h v16) fun v17=>
   bnd (ixV h 1 (ge l15 0) (.d (.int .i64 0))) fun v18=>
   bnd (ld1 h v18) fun v19=>
   bnd (ixV h 1 v17 v19) fun v20=>
   bnd (ld1 h v20) fun v21=>
   cai (CX Y).i h (.fn F.aM [] []) [v21] 4 fun v22 h=>
   out (.tup [.d (.sl a.cd.length ((fV a).map dn)),szV (szI a.w.2 (k8 a)),I 0]) (.tup [(ge l15 0),v22,(.d (.int .i64 0))]) h),
   (.ret,fun l15 h=>out (.tup [.d (.sl a.cd.length ((fV a).map dn)),szV (szI a.w.2 (k8 a)),I 0]) (.tup [(ge l15 1),(ge l15 2),(ge l15 0)]) h)]) a.cd.length [] 0 af (fun x l e=>by simp at e) (fun h=>by simp at h) (by
  rw[List.nil_append]
  show exK _ _ [qS.v a.cd.length ((fV a).map dn)] (bsH a nnQ (qS.b a.cd.length ((fV a).map dn)))
  rw[hv];have e0:((0:Nat):Int)=0:=rfl;rw[e0]at x1;have e1:V.d (dn (nth 0 (fV a) 0))=I (nth 0 (fV a) 0:Nat):=rfl;rw[e1]at x2;generalize hH:bsH a nnQ (qS.b a.cd.length ((fV a).map dn))=H at *;simp only[iP,DJ,i1,AW,i2,x1,x2,i3,i4];refine fe (e:=0) (b:=.none) csz (by rw[<-hH];rfl) ?_
  have fl:(((szI a.w.2 (k8 a)).map tx).flatMap aK).length=(szI a.w.2 (k8 a)).length*2:=by rw[d6 aK bv,List.length_map]
  have e4:V.d (.sl (szI a.w.2 (k8 a)).length (((szI a.w.2 (k8 a)).map tx).flatMap aK))=szV (szI a.w.2 (k8 a)):=by unfold szV qm;rw[List.length_map]
  rw[<-e4,<-hH];generalize((szI a.w.2 (k8 a)).map tx).flatMap aK=cells at *;generalize(szI a.w.2 (k8 a)).length=len at *;have bl':((fV a).map dn).length=a.cd.length:=by rw[List.length_map,bl]
  generalize(fV a).map dn=bc at *;refine⟨[adB a,(1,.data 1 (grD a) false true),nnQ,(1,.data 1 bc false true),(1,.data 2 cells false true)],?_⟩
  show bJ _ (.tup [.ref 3 1 0 a.cd.length a.cd.length a.cd.length,.ref 4 1 0 len len cells.length,I 0])=_
  have t1:toD ((bsH a nnQ (qS.b a.cd.length bc)).set 4 (0+1,.data 2 cells false false)) (.ref 3 1 0 a.cd.length a.cd.length a.cd.length)=some (.sl a.cd.length bc,[adB a,(1,.data 1 (grD a) false true),nnQ,(1,.data 1 bc false true),(1,.data 2 cells false false)]):=by
   have hg:aw ((bsH a nnQ (qS.b a.cd.length bc)).set 4 (0+1,.data 2 cells false false)) 3 1=.data 1 bc false false:=by rw[hn];rfl
   simp only[toD,hg];rw[if_pos ⟨bl'.symm,Z7 _,aa⟩];simp only[Zj,Yc];rw[Z6 aa];congr 2
  have t2:toD [adB a,(1,.data 1 (grD a) false true),nnQ,(1,.data 1 bc false true),(1,.data 2 cells false false)] (.ref 4 1 0 len len cells.length)=some (.sl len cells,[adB a,(1,.data 1 (grD a) false true),nnQ,(1,.data 1 bc false true),(1,.data 2 cells false true)]):=by
   have hg:aw [adB a,(1,.data 1 (grD a) false true),nnQ,(1,.data 1 bc false true),(1,.data 2 cells false false)] 4 1=.data 2 cells false false:=rfl;simp only[toD,hg];rw[if_pos ⟨trivial,Z7 _,aa⟩];simp only[Zj];rw[Z6 aa];rfl
  simp_all[bJ,aS])
 simp[gH,bx,l6];refine cd ck ?_;simp[l6];refine jC (XT (e:=0) (b:=.none) we rfl ?_);simp;refine cdz sn re ?_;rw[show fN (V.tup [V.d (ia a.w.2 (rA a)),I 0])=false from rfl,if_neg ae];simp[lR];exact main
theorem Hm{r:LiQ}(hN:r.length<1000000)(K:KL)(hK:K (.exit 0) [] []):∀(q l:LiQ),l++q=r ->
  lp (jX (CX Y) (lst di r) (lst di r)) [] [] [I l.length] [] K
 | [],l,hl=>by
  have e:l=r:=by simpa using hl
  subst e;refine aj ?_;simp[jX];exact hK
 | x::q,l,hl=>by
  have hll:r.length=l.length+(q.length+1):=by rw[<-hl];simp
  have ih:=Hm hN K hK q (l++[x]) (by grind);have i1:∀H:Hp,ixV H 1 (lst di r) (I l.length)=some (.dptr (r.map di) l.length):=fun H=>aJ di _ H rfl aa
  have i2:∀H:Hp,ld1 H (.dptr (r.map di) l.length)=some (I x):=fun H=>by rw[aC di 0 r H aa,<-hl,bM];rfl
  have g:(l.length:Int)<r.length:=aa;have e2:((l++[x]).length:Int)=(l.length:Int)+1:=af;rw[e2]at ih;have hre:au [] 0 [] []=([]:Hp):=rfl;have lr:bj (lst di r)=some (I r.length):=rfl;refine aj ?_;simp(disch:=try exact ag)[jX,lr,g,i1,i2];exact ih
theorem Rk{r:LiQ}(hN:r.length<1000000):CP Y F.ix [lst di r,lst di r] (B true):=by refine yp ?_;have lr:bj (lst di r)=some (I r.length):=rfl;have:=Hm hN (exK [(Exit.exit 0,fun l4 h=>out (B true) (B true) h),(Exit.ret,fun l4 h=>out (B true) (ge l4 0) h)]) (nN rfl) r [] rfl;simp[ix,lr];exact this
theorem YG(x:Q):biA [.str [],.str []] .neq (.agg (qT x)) (.agg (qT x))=some (B false):=by simp[biA,qT,C3,eqC]
theorem Hl{r:List Q}(hN:r.length<1000000)(K:KL)(hK:K (.exit 0) [] []):∀(q l:List Q),l++q=r ->
  lp (jW (CX Y) (szV r) (szV r)) [] [] [I l.length] [] K
 | [],l,hl=>by
  have e:l=r:=by simpa using hl
  subst e;have lr:bj (szV l)=some (I l.length):=by simp[szV]
  refine aj ?_;simp[jW,lr];exact hK
 | x::q,l,hl=>by
  have hll:r.length=l.length+(q.length+1):=by rw[<-hl];simp
  have ih:=Hl hN K hK q (l++[x]) (by grind);obtain⟨w,w1,w2⟩:=SY r [] (i:=l.length) aa;have hn:nth (0,1) r l.length=x:=by rw[<-hl,bM]
  rw[hn]at w2;have g:(l.length:Int)<r.length:=aa;have e2:((l++[x]).length:Int)=(l.length:Int)+1:=af;rw[e2]at ih;have lr:bj (szV r)=some (I r.length):=by simp[szV]
  have bs:=YG x;refine aj ?_;simp(disch:=try exact ag)[jW,lr,g,w1,w2,bs];exact ih
theorem Hk{r:List Q}(hN:r.length<1000000):CP Y F.fL [szV r,szV r] (B true):=by
 refine yn ?_;have lr:bj (szV r)=some (I r.length):=by simp[szV]
 have:=Hl hN (exK [(Exit.exit 0,fun l4 h=>out (B true) (B true) h),(Exit.ret,fun l4 h=>out (B true) (ge l4 0) h)]) (nN rfl) r [] rfl;simp[fL,lr];exact this
def exA:Ad where
 p:=[2,3,5]
 ch:=[[[0,0,0],[-1,1,0]],[[0,0,0],[-1,1,0]],[[0,0,0],[-1,1,0]]]
 lk:=[[(1,0)],[(1,0)]]
 cd:=[[[0,0,0]],[[0,0,0],[-4,4,-1]],[[-4,4,-1]]]
 w:=(0,1)
theorem abc:cI exA where
 hp:=⟨rfl,ae⟩
 wk:=⟨ae,ae,by unfold bdR;trivial,ae,ae,by trivial⟩
 lkn:=ae
 cne:=ae
 five:=ae
 cl:=ae
 cn:=ae
 cr:=by unfold bdR;trivial
 w0:=⟨⟨ae,ae⟩,ae,ae,ae⟩
theorem abb:fV exA=[0,0,0]:=bb
theorem V3:k8 exA=[-4,4,-1]:=bb
theorem Oy:CP Y F.fk [] (.agg (adC exA)):=by refine ve ?_;have w0:=qc (z:=0) aa aa;simp[fk,cO,jv,iH,toD];refine cd w0 ?_;simp[qT];exact⟨_,rfl⟩
theorem Oj:CP Y F.fi [] (B true):=by
 refine wW ?_;have bo:=QW abc;rw[abb,V3]at bo;have bo':CP Y F.gH [.agg (adC exA)] (.tup [lst di [0,0,0],szV (szI 1 [-4,4,-1]),I 0]):=bo;have ro:=SD abc (c:=[0,0,0]) (by rfl);have mo:=ZD abc (c:=[0,0,0]) (by rfl);have em:LJ exA 0 (nth 0 [0,0,0] 0:Int).toNat ([0,0,0]:LiQ).tail=[(1,0,[-4,4,-1])]:=bb
 obtain⟨R,hR⟩:=nmQ (tL exA 0 [0,0,0]);have hR3:R.length=3:=by rw[hR];decide+kernel
 have hR2:nth [] R 2=[-6,6,-1]:=by rw[hR];decide+kernel
 rw[em]at mo;rw[<-hR]at ro;have es:szI 1 [-4,4,-1]=[(-4,1),(4,1),(-1,1)]:=ae;rw[es]at bo';have s1:=Hk (r:=[(-4,1),(4,1),(-1,1)]) ae
 have li3:∀H,cO 3 [D.str [],D.str []] [(0,.agg (qT (-4,1))),(1,.agg (qT (4,1))),(2,.agg (qT (-1,1)))] H=some (aK (tx (-4,1))++aK (tx (4,1))++aK (tx (-1,1)),H):=fun H=>by
  rfl
 have sn1:∀H,aS H [szV [(-4,1),(4,1),(-1,1)],.d (.sl 3 (aK (tx (-4,1))++aK (tx (4,1))++aK (tx (-1,1))))]=some ([szV [(-4,1),(4,1),(-1,1)],szV [(-4,1),(4,1),(-1,1)]],H):=fun _=>rfl
 have x1:ld1 [adB exA] (.dptr [di 0,di 0,di 0] 1)=some (I 0):=rfl;have i1:∀H:Hp,ixV H 1 (mat R) (.d (.int .i64 2))=some (.dptr (R.map row) 2):=fun H=>aJ row R H rfl aa
 have i2:∀H:Hp,ld1 H (.dptr (R.map row) 2)=some (lst di [-6,6,-1]):=fun H=>by rw[aC row [] R H aa,hR2];rfl
 have lr:bj (mat R)=some (I 3):=by rw[show bj (mat R)=some (I R.length)from rfl,hR3];rfl
 have li4:∀H,cO 3 [D.int IntKind.i64 0] [(0,I (-6)),(1,I 6),(2,I (-1))] H=some ([di (-6),di 6,di (-1)],H):=fun H=>by
  rfl
 have m1:∀H:Hp,ixV H 3 (qm mvC [(1,0,[-4,4,-1])]) (.d (.int .i64 0))=some (.dptr (mvC (1,0,[-4,4,-1])) 0):=fun H=>rfl
 have m2:∀H:Hp,ld1 H (.dptr (mvC (1,0,[-4,4,-1])) 0)=some (I 1):=fun H=>rfl
 have s2:=Rk (r:=[-6,6,-1]) ae;have wa:=qc (z:=-4) aa aa;have wb:=qc (z:=4) aa aa;have wc:=qc (z:=-1) aa aa;have l6':=(xn _ _ _ _ _ _).symm.trans (show ldA [adB exA] 6 (.ptr 0 1 0 6)=some (.agg (adC exA))from rfl)
 have stx:∀(k:kkQ)(u:PU k),rh (stD [(1,.vars [.d nPQ,.d nPQ,.d nPQ,.d nPQ,.d (.str []),.d (.str [])])] 6 (.ptr 0 1 0 6) (.agg (adC exA))) k u=k .junk [adB exA]:=fun _ _=>rfl
 have st1:st [(1,.vars [.d nPQ,.d nPQ,.d nPQ,.d nPQ,.d (.str []),.d (.str [])])] 6 (.ptr 0 1 0 6) (.agg (adC exA))=some [adB exA]:=rfl;have l6:ldA [adB exA] 6 (.ptr 0 1 0 6)=some (.agg (adC exA)):=rfl;simp[fi];refine cd Oy ?_ (by rfl);simp[stx,l6,l6'];refine cd bo' ?_;simp[l6,l6']
 refine cd ro ?_;simp[l6,l6'];refine cd mo ?_;simp[x1];refine cd wa ?_;simp;refine cd wb ?_;simp;refine cd wc ?_;simp[li3];refine cdx (sn1 _) s1 ?_;simp(disch:=try exact ag)[lr,i1,i2,li4];refine cd s2 ?_;simp(disch:=try exact ag)[m1,m2]
def CV(j:Nat):IntKind:=if 6<=j∧j<51 then .i8 else if 73<=j∧j<119 then .i8 else .u8
def plD(f:Nat->Int)(j:Nat):D:=.int (CV j) (f j)
def Lq(f:Nat->Int):LwQ:=(List.range 68).map fun j=>.d (plD f j)
def plB(f:Nat->Int):Nat×Bk:=(1,.vars (Lq f))
structure GW(f:Nat->Int):Prop where
 u:∀j<120,CV j=.u8->0<=f j∧f j<=255
 s:∀j<120,CV j=.i8->-128<=f j∧f j<=127
theorem tG(h:(j<6∨51<=j)∧(j<73∨119<=j)):CV j=.u8:=by unfold CV;rw[if_neg aa,if_neg aa]
theorem xo(h:(6<=j∧j<51)∨(73<=j∧j<119)):CV j=.i8:=by
 unfold CV;by_cases g:6<=j∧j<51
 .rw[if_pos g]
 .rw[if_neg g,if_pos aa]
theorem Ru(g:Nat->α)(h:j<n):((List.range n).map g)[j]?=some (g j):=by simp[h]
theorem Hv(g:Nat->α)(h:j+m<=n):cut ((List.range n).map g) j m=some ((List.range m).map fun i=>g (j+i)):=by
 simp only[cut,List.length_map,Y0];rw[if_pos h];congr 1;apply Wp
 .grind
 simp
theorem Uu{H:Hp}(hj:j<68):ld1 (plB f::H) (.ptr 0 1 j 68)=some (.d (plD f j)):=by grind[aw,plB,Lq,ld1]
theorem Ut{H:Hp}(hj:j+m<=68):ldA (plB f::H) m (.ptr 0 1 j 68)=some (.agg ((List.range m).map fun i=>.d (plD f (j+i)))):=by grind[aw,plB,Lq,ldA,Hv]
def ntF(f:Nat->Int)(i:Nat):Nat:=1+(f (1+i)).toNat%3
def rwF(f:Nat->Int)(j:Nat):LiQ:=[(f j).tmod 9,(f (j+1)).tmod 9,(f (j+2)).tmod 9]
def chF(f:Nat->Int)(i:Nat):LLQ:=(List.range (ntF f i)).map fun k=>rwF f (6+i*9+k*3)
theorem TH(f:Nat->Int)(j:Nat):(rwF f j).length=3∧bdR 8 (rwF f j):=by
 refine⟨rfl,fun x hx=>?_⟩
 have h:∀z:Int,-8<=z.tmod 9∧z.tmod 9<=8:=fun z=>by
  have h1:=Wn z (b:=9) ae
  have h2 : -9<z.tmod 9:=by
   rcases Int.le_total 0 z with h|h
   .grind
   .have e:z.tmod 9 = -((-z).tmod 9):=by rw[Int.neg_tmod,Int.neg_neg]
    grind
  omega
 simp only[rwF,Zo,Ys,or_false]at hx;rcases hx with rfl|rfl|rfl<;>exact h _
def tJ:Acc:=⟨5,0,1,.none⟩
def m1H(f:Nat->Int)(s1 s2 s3 s4 s5 s6 s7 s8 s9:Nat×Bk):Hp:=[plB f,s1,s2,s3,s4,s5,s6,s7,s8,s9]
def chC(f:Nat->Int)(i n:Nat):LdQ:=(List.range n).map fun k=>row (rwF f (6+i*9+k*3))
theorem XH(f:Nat->Int)(i n:Nat):chC f i (n+1)=chC f i n++[row (rwF f (6+i*9+n*3))]:=by simp[chC,Y3]
theorem U7{f:Nat->Int}(P:GW f){i:Nat}(hi:i<5){s1 s2 s3 s6 s7 s8 s9:Nat×Bk}(b1:offB [4] s1.2=true)(b2:offB [4] s2.2=true)(b3:offB [4] s3.2=true)(b6:offB [4] s6.2=true)(b7:offB [4] s7.2=true)(b8:offB [4] s8.2=true)(b9:offB [4] s9.2=true)
  (K:KL) (hK:K (.exit 2) [tJ.v (ntF f i) (chC f i (ntF f i))] (m1H f s1 s2 s3 nnQ (tJ.b (ntF f i) (chC f i (ntF f i))) s6 s7 s8 s9)) :
  ∀(m k:Nat),k+m=ntF f i ->
  lp (jU (CX Y) (.ptr 0 1 0 68) (I i) (I (ntF f i))) [4] (m1H f s1 s2 s3 nnQ nnQ s6 s7 s8 s9) [tJ.v k (chC f i k),I k] (m1H f s1 s2 s3 nnQ (tJ.b k (chC f i k)) s6 s7 s8 s9) K
 | 0,k,hk=>by
  have ek:ntF f i=k:=aa;rw[ek]at hK ⊢;refine aj ?_;simp[jU];exact hK
 | m+1,k,hk=>by
  have h3:ntF f i<=3:=by have:=Y7 (f (1+i)).toNat (show 0<3 by decide);unfold ntF;omega
  have ih:=U7 P hi (s1:=s1) (s2:=s2) (s3:=s3) (s6:=s6) (s7:=s7) (s8:=s8) (s9:=s9) b1 b2 b3 b6 b7 b8 b9 K hK m (k+1) aa;rw[XH]at ih;obtain⟨j,hj⟩:=nmQ (6+i*9+k*3);have hjl:j+3<=51:=aa;have k0:plD f j=.int .i8 (f j):=by unfold plD;rw[xo aa]
  have k1:plD f (j+1)=.int .i8 (f (j+1)):=by unfold plD;rw[xo aa]
  have k2:plD f (j+2)=.int .i8 (f (j+2)):=by unfold plD;rw[xo aa]
  have q0:=P.s j aa (xo aa);have q1:=P.s (j+1) aa (xo aa);have q2:=P.s (j+2) aa (xo aa)
  have r1:ldA (m1H f s1 s2 s3 nnQ (tJ.b k (chC f i k)) s6 s7 s8 s9) 3 (.ptr 0 1 j 68)=some (.agg [.d (.int .i8 (f j)),.d (.int .i8 (f (j+1))),.d (.int .i8 (f (j+2)))]):=by
   have:=Ut (f:=f) (H:=[s1,s2,s3,nnQ,tJ.b k (chC f i k),s6,s7,s8,s9]) (j:=j) (m:=3) aa;rw[<-k0,<-k1,<-k2];exact this
  have r1':=(xn _ _ _ _ _ _).symm.trans r1;have c1:(chC f i k).length=k*1:=by simp[chC]
  have g:(k:Int)<ntF f i:=aa;have g5:(i:Int)<5:=aa;have gk3:(k:Int)<3:=aa;have rb:=TH f j;obtain⟨x,hx⟩:=nmQ (f j);obtain⟨y,hy⟩:=nmQ (f (j+1));obtain⟨z,hz⟩:=nmQ (f (j+2));have er:rwF f j=[x.tmod 9,y.tmod 9,z.tmod 9]:=by rw[hx,hy,hz];rfl
  rw[<-hj,er]at ih;rw[<-hx,<-hy,<-hz]at r1 r1';rw[<-hx]at q0;rw[<-hy]at q1;rw[<-hz]at q2;have al:∀(q:kkQ)(u:PU q),rh (alD 4 1 [.int .i8 0,.int .i8 0,.int .i8 0] (m1H f s1 s2 s3 nnQ (tJ.b k (chC f i k)) s6 s7 s8 s9)) q u=q (.ptr 4 1 0 3) (m1H f s1 s2 s3 (1,.data 1 [.int .i8 0,.int .i8 0,.int .i8 0] true false) (tJ.b k (chC f i k)) s6 s7 s8 s9):=fun _ _=>rfl
  have sd:∀(q:kkQ)(u:PU q),rh (stD (m1H f s1 s2 s3 (1,.data 1 [.int .i8 0,.int .i8 0,.int .i8 0] true false) (tJ.b k (chC f i k)) s6 s7 s8 s9) 3 (.ptr 4 1 0 3) (.agg [.d (.int .i8 x),.d (.int .i8 y),.d (.int .i8 z)])) q u=q .junk (m1H f s1 s2 s3 (1,.data 1 [.int .i8 x,.int .i8 y,.int .i8 z] true false) (tJ.b k (chC f i k)) s6 s7 s8 s9):=fun _ _=>rfl
  have t0:ld1 (m1H f s1 s2 s3 (1,.data 1 [.int .i8 x,.int .i8 y,.int .i8 z] true false) (tJ.b k (chC f i k)) s6 s7 s8 s9) (.ptr 4 1 0 3)=some (.d (.int .i8 x)):=rfl;have t1:ld1 (m1H f s1 s2 s3 (1,.data 1 [.int .i8 x,.int .i8 y,.int .i8 z] true false) (tJ.b k (chC f i k)) s6 s7 s8 s9) (.ptr 4 1 1 3)=some (.d (.int .i8 y)):=rfl
  have t2:ld1 (m1H f s1 s2 s3 (1,.data 1 [.int .i8 x,.int .i8 y,.int .i8 z] true false) (tJ.b k (chC f i k)) s6 s7 s8 s9) (.ptr 4 1 2 3)=some (.d (.int .i8 z)):=rfl;have t0':=(mu _ _ _ _ _).symm.trans t0;have t1':=(mu _ _ _ _ _).symm.trans t1;have t2':=(mu _ _ _ _ _).symm.trans t2
  have li3:∀H,cO 3 [D.int IntKind.i64 0] [(0,I (x.tmod 9)),(1,I (y.tmod 9)),(2,I (z.tmod 9))] H=some ([di (x.tmod 9),di (y.tmod 9),di (z.tmod 9)],H):=fun H=>by
   rfl
  have li1:∀H,cO 1 [nPQ] [(0,.d (.sl 3 [di (x.tmod 9),di (y.tmod 9),di (z.tmod 9)]))] H=some ([row [x.tmod 9,y.tmod 9,z.tmod 9]],H):=fun H=>by
   rfl
  refine aj ?_;simp(disch:=try exact ag)[jU,g,g5,gk3,<-hj,r1,r1',al,sd,t0,t0',t1,t1',t2,t2',li3,li1];refine hO tJ (L:=k) (k:=1) (cells:=chC f i k) (cs:=[row [x.tmod 9,y.tmod 9,z.tmod 9]]) aa rfl c1 rfl rfl (fun t e=>by cases e) aa ae ?_;have g2:biI .add (I k) (.d (.int .i64 1))=some (I ((k+1:Nat):Int)):=wE aa
  show bnd _ _
  rw[g2]
  have b0:offB [4] (plB f).2=true:=by
   have:∀(l:LnQ),dT [4] (l.map fun j=>V.d (plD f j))=true:=fun l=>by
    induction l with
    |nil=>rfl
    |cons x l ih=>trivial
   exact this _
  have o5:∀L c,offB [4] (tJ.b L c).2=true:=fun L c=>fO _ _ _ _ rfl
  have o5':∀L c,kH [4] (tJ.v L c)=true:=fun L c=>gL _ _ _ _ rfl
  refine⟨?_,?_⟩
  .simp only[clean,dT,o5',m1H,List.set_cons_succ,List.set_cons_zero,jm,b0,b1,b2,b3,b6,b7,b8,b9,o5,mZ,Y4,Zg,X1,tJ];rfl
  trivial
def nlF(f:Nat->Int)(n:Nat):Nat:=1+(f 67).toNat/2^n%2
def lkF(f:Nat->Int)(n k:Nat):Lk:=((f (51+n*4+k*2)).tmod (ntF f n),(f (51+n*4+k*2+1)).tmod (ntF f (n+1)))
def lkL(f:Nat->Int)(n:Nat):List Lk:=(List.range (nlF f n)).map (lkF f n)
def ccC(f:Nat->Int)(n:Nat):LdQ:=(List.range n).map fun i=>aA (chF f i)
theorem XQ(f:Nat->Int)(n:Nat):ccC f (n+1)=ccC f n++[aA (chF f n)]:=by simp[ccC,Y3]
def llC(f:Nat->Int)(n:Nat):LdQ:=(List.range n).map fun i=>lkD (lkL f i)
theorem Vh(f:Nat->Int)(n:Nat):llC f (n+1)=llC f n++[lkD (lkL f n)]:=by simp[llC,Y3]
def tI:Acc:=⟨6,0,1,.none⟩
def ww:Acc:=⟨8,0,2,.none⟩
def Dc:Acc:=⟨9,0,1,.none⟩
def wB(f:Nat->Int)(i j:Nat):Nat×Bk:=(1,.vars [.ref 2 1 0 3 3 3,tI.v i (ccC f i),Dc.v j (llC f j)])
def prB:Nat×Bk:=(1,.data 1 [di 2,di 3,di 5] true false)
def rO(f:Nat->Int)(n k:Nat):LdQ:=(List.range k).flatMap fun k=>lkC (lkF f n k)
theorem RU(f:Nat->Int)(n k:Nat):rO f n (k+1)=rO f n k++lkC (lkF f n k):=by simp[rO,Y3]
theorem HB(f:Nat->Int)(i:Nat):1<=ntF f i∧ntF f i<=3:=by grind[ntF]
theorem P0(f:Nat->Int)(i:Nat):1<=nlF f i∧nlF f i<=2:=by grind[nlF]
theorem I4(f:Nat->Int)(clr:LnQ):offB clr (plB f).2=true:=by
 have:∀(l:LnQ),dT clr (l.map fun j=>V.d (plD f j))=true:=fun l=>by
  induction l with
  |nil=>rfl
  |cons x l ih=>trivial
 rfl
theorem Iy(f:Nat->Int)(h2:dw clr 2=true)(h6:dw clr 6=true)(h9:dw clr 9=true):offB clr (wB f i j).2=true:=by grind[kH,wB,offB,dT,gL,tI,Dc]
theorem U6{f:Nat->Int}(P:GW f){n:Nat}(hn:n<4){s1 s4 s5 s9:Nat×Bk}(b1:offB [7] s1.2=true)(b4:offB [7] s4.2=true)(b5:offB [7] s5.2=true)(b9:offB [7] s9.2=true){cv:V}(hcv:bj cv=some (I (ntF f (n+1))))
  (K:KL) (hK:K (.exit 4) [ww.v (nlF f n) (rO f n (nlF f n))] (m1H f s1 prB (wB f (n+2) n) s4 s5 (tI.b (n+2) (ccC f (n+2))) nnQ (ww.b (nlF f n) (rO f n (nlF f n))) s9)) :
  ∀(m k:Nat),k+m=nlF f n ->
  lp (jT (CX Y) (.ptr 0 1 0 68) (.ptr 3 1 0 3) (I (n+1:Nat)) cv (I (nlF f n))) [7] (m1H f s1 prB (wB f (n+2) n) s4 s5 (tI.b (n+2) (ccC f (n+2))) nnQ nnQ s9) [ww.v k (rO f n k),I k]
   (m1H f s1 prB (wB f (n+2) n) s4 s5 (tI.b (n+2) (ccC f (n+2))) nnQ (ww.b k (rO f n k)) s9) K
 | 0,k,hk=>by
  have ek:nlF f n=k:=aa;rw[ek]at hK ⊢;refine aj ?_;simp[jT];exact hK
 | m+1,k,hk=>by
  obtain⟨l0,l2⟩:=P0 f n;obtain⟨n0,n3⟩:=HB f n;obtain⟨m0,m3⟩:=HB f (n+1);have ih:=U6 P hn (s1:=s1) (s4:=s4) (s5:=s5) (s9:=s9) b1 b4 b5 b9 hcv K hK m (k+1) aa;rw[RU]at ih;obtain⟨j,hj⟩:=nmQ (51+n*4+k*2);have hjl:j+2<=67:=aa;have k0:plD f j=.int .u8 (f j):=by unfold plD;rw[tG aa]
  have k1:plD f (j+1)=.int .u8 (f (j+1)):=by unfold plD;rw[tG aa]
  have q0:=P.u j aa (tG aa);have q1:=P.u (j+1) aa (tG aa)
  have r1:ldA (m1H f s1 prB (wB f (n+2) n) s4 s5 (tI.b (n+2) (ccC f (n+2))) nnQ (ww.b k (rO f n k)) s9) 2 (.ptr 0 1 j 68)=some (.agg [.d (.int .u8 (f j)),.d (.int .u8 (f (j+1)))]):=by
   have:=Ut (f:=f) (H:=[s1,prB,wB f (n+2) n,s4,s5,tI.b (n+2) (ccC f (n+2)),nnQ,ww.b k (rO f n k),s9]) (j:=j) (m:=2) aa;rw[<-k0,<-k1];exact this
  have r1':=(xn _ _ _ _ _ _).symm.trans r1;have c1:(rO f n k).length=k*2:=by unfold rO;rw[d6 (fun k=>lkC (lkF f n k)) (n:=2) (fun _=>rfl)];simp
  have g:(k:Int)<nlF f n:=aa;have gn4:(n:Int)<4:=aa;have gk2:(k:Int)<2:=aa;have gn:((n:Int)+1)-1=(n:Int):=aa;obtain⟨x,hx⟩:=nmQ (f j);obtain⟨y,hy⟩:=nmQ (f (j+1));have el:lkF f n k=(x.tmod (ntF f n),y.tmod (ntF f (n+1))):=by unfold lkF;rw[<-hj,hx,hy]
  rw[el]at ih;rw[<-hx,<-hy]at r1 r1';rw[<-hx]at q0;rw[<-hy]at q1;obtain⟨s8,hs8⟩:∃s,s=ww.b k (rO f n k):=⟨_,rfl⟩;obtain⟨v8,hv8⟩:∃s,s=ww.v k (rO f n k):=⟨_,rfl⟩;rw[<-hs8]at r1 r1'
  have fin:∀(s7:Nat×Bk)(q:kkQ)(u:PU q),q (ww.v (k+1) (rO f n k++lkC (x.tmod (ntF f n),y.tmod (ntF f (n+1))))) (m1H f s1 prB (wB f (n+2) n) s4 s5 (tI.b (n+2) (ccC f (n+2))) s7 (ww.b (k+1) (rO f n k++lkC (x.tmod (ntF f n),y.tmod (ntF f (n+1))))) s9) ->
    rh (apV false 8 2 16 v8 (.d (.sl 1 [di (x.tmod (ntF f n)),di (y.tmod (ntF f (n+1)))])) (m1H f s1 prB (wB f (n+2) n) s4 s5 (tI.b (n+2) (ccC f (n+2))) s7 s8 s9)) q u:=fun s7 q u hq=>by
   rw[hs8,hv8];exact hO ww (L:=k) (k:=1) (cells:=rO f n k) (cs:=lkC (x.tmod (ntF f n),y.tmod (ntF f (n+1)))) aa rfl c1 rfl rfl (fun t e=>by cases e) aa ae hq
  obtain⟨s6,hs6⟩:∃s,s=tI.b (n+2) (ccC f (n+2)):=⟨_,rfl⟩;obtain⟨v6,hv6⟩:∃s,s=tI.v (n+2) (ccC f (n+2)):=⟨_,rfl⟩;obtain⟨s3,hs3⟩:∃s,s=wB f (n+2) n:=⟨_,rfl⟩;have b3:offB [7] s3.2=true:=by rw[hs3];exact Iy f rfl rfl rfl
  have b6:offB [7] s6.2=true:=by rw[hs6];exact fO _ _ _ _ rfl
  have r3:∀s7,ld1 (m1H f s1 prB s3 s4 s5 s6 s7 s8 s9) (.ptr 3 1 1 3)=some v6:=fun s7=>by rw[hs3,hv6];rfl
  have r3':=fun s7=>(mu _ _ _ _ _).symm.trans (r3 s7)
  have hv:v6=.ref 6 1 0 (n+2) (n+2) (n+2):=by
   have:(ccC f (n+2)).length=n+2:=by simp[ccC]
   rw[hv6];simp only[Acc.v,tI,this]
  have r6:∀s7,∃w,ixV (m1H f s1 prB s3 s4 s5 s6 s7 s8 s9) 1 v6 (I n)=some w∧ld1 (m1H f s1 prB s3 s4 s5 s6 s7 s8 s9) w=some (.d (aA (chF f n))):=fun s7=>by
   have hs:(m1H f s1 prB s3 s4 s5 s6 s7 s8 s9)[6]?=some (1,.data 1 ((List.range (n+2)).map fun i=>aA (chF f i)) false false):=by rw[hs6];rfl
   have x1:=ixB (f:=fun i=>aA (chF f i)) hs (n:=n+2) af (i:=n) aa .i64;have x2:=ldB (f:=fun i=>aA (chF f i)) 0 hs (n:=n+2) af (i:=n) aa;have e:nth 0 (List.range (n+2)) n=n:=by rw[aN _ _ _ af];simp
   grind
  have lmx:bj (.d (aA (chF f n)))=some (I (ntF f n)):=by rw[RX];simp[chF]
  rw[<-hs6,<-hs3]at fin r1 r1' ih;rw[<-hs8,<-hv8,<-hs6,<-hs3];have al:∀(q:kkQ)(u:PU q),rh (alD 7 1 [.int .u8 0,.int .u8 0] (m1H f s1 prB s3 s4 s5 s6 nnQ s8 s9)) q u=q (.ptr 7 1 0 2) (m1H f s1 prB s3 s4 s5 s6 (1,.data 1 [.int .u8 0,.int .u8 0] true false) s8 s9):=fun _ _=>rfl
  have sd:∀(q:kkQ)(u:PU q),rh (stD (m1H f s1 prB s3 s4 s5 s6 (1,.data 1 [.int .u8 0,.int .u8 0] true false) s8 s9) 2 (.ptr 7 1 0 2) (.agg [.d (.int .u8 x),.d (.int .u8 y)])) q u=q .junk (m1H f s1 prB s3 s4 s5 s6 (1,.data 1 [.int .u8 x,.int .u8 y] true false) s8 s9):=fun _ _=>rfl
  obtain⟨s7,hs7⟩:∃s:Nat×Bk,s=(1,.data 1 [.int .u8 x,.int .u8 y] true false):=⟨_,rfl⟩;have t0:ld1 (m1H f s1 prB s3 s4 s5 s6 s7 s8 s9) (.ptr 7 1 0 2)=some (.d (.int .u8 x)):=by rw[hs7];rfl
  have t1:ld1 (m1H f s1 prB s3 s4 s5 s6 s7 s8 s9) (.ptr 7 1 1 2)=some (.d (.int .u8 y)):=by rw[hs7];rfl
  have t0':=(mu _ _ _ _ _).symm.trans t0;have t1':=(mu _ _ _ _ _).symm.trans t1;rw[<-hs7]at sd;obtain⟨w,w1,w2⟩:=r6 s7;obtain⟨p,hp⟩:∃p:Int,p=ntF f n:=⟨_,rfl⟩;obtain⟨o,ho⟩:∃p:Int,p=ntF f (n+1):=⟨_,rfl⟩;have p0:p≠0:=aa;have o0:o≠0:=aa;rw[<-hp]at lmx fin ih;rw[<-ho]at hcv fin ih
  have bl:bld [(0,1),(1,1)] [.int .i64 0,.int .i64 0] [(0,I (x.tmod p)),(1,I (y.tmod o))]=some (.agg [I (x.tmod p),I (y.tmod o)]):=rfl
  have li1:∀H,cO 1 [D.int IntKind.i64 0,D.int IntKind.i64 0] [(0,.agg [I (x.tmod p),I (y.tmod o)])] H=some ([di (x.tmod p),di (y.tmod o)],H):=fun H=>by
   rfl
  refine aj ?_;simp(disch:=try exact ag)[jT,g,gn,gn4,gk2,<-hj,r1,r1',al,sd,t0,t0',t1,t1',r3,r3',w1,w2,lmx,hcv,p0,o0,li1];refine fin _ _ .mk ?_;have g2:biI .add (I k) (.d (.int .i64 1))=some (I ((k+1:Nat):Int)):=wE aa
  show bnd _ _
  rw[g2];have o8:∀L c,offB [7] (ww.b L c).2=true:=fun L c=>fO _ _ _ _ rfl
  have o8':∀L c,kH [7] (ww.v L c)=true:=fun L c=>gL _ _ _ _ rfl
  have bp:offB [7] prB.2=true:=rfl;refine⟨?_,?_⟩
  .simp only[clean,dT,o8',m1H,jm,I4,bp,b1,b3,b4,b5,b6,b9,o8,mZ,Y4,Zg,X1];rfl
  trivial
theorem aiC{a:Nat}(h:a<256):biI .and (.d (.int .u8 a)) (.d (.int .u8 1))=some (.d (.int .u8 ((a%2:Nat):Int))):=by
 have ea:(BitVec.ofInt 8 (a:Int)).toNat=a:=by simp[BitVec.toNat_ofInt];omega
 have eb:(BitVec.ofInt 8 (1:Int)).toNat=1:=ae;have e:(BitVec.ofInt 8 (a:Int)&&&BitVec.ofInt 8 1).toNat=a%2:=by rw[BitVec.toNat_and,ea,eb,Nat.and_one_is_mod]
 show mr (some (Value.int .u8 (IntKind.wrap .u8 ((BitVec.ofInt 8 (a:Int)&&&BitVec.ofInt 8 1).toNat:Int))))=_
 rw[e,wrap_u8' aa aa];rfl
def m0K(f:Nat->Int)(z:Nat×Bk)(i:Nat):Hp:=m1H f z prB (wB f i (i-1)) nnQ nnQ (tI.b i (ccC f i)) nnQ nnQ (Dc.b (i-1) (llC f (i-1)))
theorem abz(f:Nat->Int)(i:Nat):D.sl (ntF f i) (chC f i (ntF f i))=aA (chF f i):=by simp only[aA,chF,List.length_map,Y0,Yy];rfl
theorem Vi(f:Nat->Int)(n:Nat):D.sl (nlF f n) (rO f n (nlF f n))=lkD (lkL f n):=by simp[lkD,lkL,rO,List.flatMap_map]
theorem U8{f:Nat->Int}(P:GW f){z:Nat×Bk}{N:Nat}(hN:N<=5)(b1:∀c,offB c z.2=true)(K:KL)(hK:K (.exit 0) [] (m0K f z N)) :
  ∀(m i:Nat),i+m=N ->
  lp (jV (CX Y) (.ptr 0 1 0 68) (.ptr 3 1 0 3) (I N)) [4,5,7,8] (m0K f z 0) [I i] (m0K f z i) K
 | 0,i,hi=>by
  have ei:N=i:=aa;rw[ei]at hK ⊢;refine aj ?_;simp[jV];exact hK
 | m+1,i,hi=>by
  obtain⟨n0,n3⟩:=HB f i;have ih:=U8 P hN b1 K hK m (i+1) aa;have hi5:i<5:=aa;have g:(i:Int)<N:=aa;have g5:(i:Int)<5:=aa;have k1:plD f (1+i)=.int .u8 (f (1+i)):=by unfold plD;rw[tG aa]
  have q1:=P.u (1+i) aa (tG aa)
  have ra:∀s1 s2 s3 s4 s5 s6 s7 s8 s9,ld1 (m1H f s1 s2 s3 s4 s5 s6 s7 s8 s9) (.ptr 0 1 (1+i) 68)=some (.d (.int .u8 (f (1+i)))):=fun s1 s2 s3 s4 s5 s6 s7 s8 s9=>by
   rw[<-k1];exact Uu aa
  have ra':=fun s1 s2 s3 s4 s5 s6 s7 s8 s9=>(mu _ _ _ _ _).symm.trans (ra s1 s2 s3 s4 s5 s6 s7 s8 s9)
  have tm:(f (1+i)).tmod 3=(f (1+i))%3:=Zx q1.1;have en:1+(f (1+i))%3=((ntF f i:Nat):Int):=by unfold ntF;omega
  have q1':0<=f (1+i)%3∧f (1+i)%3<=2:=aa;have l1:=fun s1 s2 s3 s6 s7 s8 s9 b1 b2 b3 b6 b7 b8 b9 K hK=>U7 P hi5 (s1:=s1) (s2:=s2) (s3:=s3) (s6:=s6) (s7:=s7) (s8:=s8) (s9:=s9) b1 b2 b3 b6 b7 b8 b9 K hK (ntF f i) 0 aa
  obtain⟨s6,hs6⟩:∃s,s=tI.b i (ccC f i):=⟨_,rfl⟩;obtain⟨v6,hv6⟩:∃s,s=tI.v i (ccC f i):=⟨_,rfl⟩;obtain⟨s9,hs9⟩:∃s,s=Dc.b (i-1) (llC f (i-1)):=⟨_,rfl⟩;obtain⟨s3,hs3⟩:∃s,s=wB f i (i-1):=⟨_,rfl⟩;have eH:m0K f z i=m1H f z prB s3 nnQ nnQ s6 nnQ nnQ s9:=by rw[hs3,hs6,hs9];rfl
  have c5:(chC f i (ntF f i)).length=ntF f i*1:=by simp[chC]
  obtain⟨v5,hv5⟩:∃v,v=tJ.v (ntF f i) (chC f i (ntF f i)):=⟨_,rfl⟩;obtain⟨s5,hs5⟩:∃v,v=tJ.b (ntF f i) (chC f i (ntF f i)):=⟨_,rfl⟩;have lv5:bj v5=some (I (ntF f i)):=by rw[hv5];exact E4 ..
  obtain⟨fr5,td⟩:=oA tJ (h:=m1H f z prB s3 nnQ s5 s6 nnQ nnQ s9) (L:=ntF f i) (c:=chC f i (ntF f i)) (by rw[hs5];rfl) c5;rw[if_neg aa,abz,<-hv5]at td;obtain⟨s5',hs5'⟩:∃s:Nat×Bk,s=(tJ.e+1,.data tJ.n (chC f i (ntF f i)) false fr5):=⟨_,rfl⟩
  have td':toD (m1H f z prB s3 nnQ s5 s6 nnQ nnQ s9) v5=some (aA (chF f i),m1H f z prB s3 nnQ s5' s6 nnQ nnQ s9):=by rw[td,hs5'];rfl
  have li5:=yZ td' (by rw[hv5];exact pU ..);have r6:ld1 (m1H f z prB s3 nnQ s5 s6 nnQ nnQ s9) (.ptr 3 1 1 3)=some v6:=by rw[hs3,hv6];rfl
  have r6':=(mu _ _ _ _ _).symm.trans r6;have cc:(ccC f i).length=i*1:=by simp[ccC]
  obtain⟨v6',hv6'⟩:∃v,v=tI.v (i+1) (ccC f (i+1)):=⟨_,rfl⟩;obtain⟨s6',hs6'⟩:∃v,v=tI.b (i+1) (ccC f (i+1)):=⟨_,rfl⟩;obtain⟨s3',hs3'⟩:∃s,s=wB f (i+1) (i-1):=⟨_,rfl⟩
  have ap6:∀(q:kkQ)(u:PU q),q v6' (m1H f z prB s3 nnQ s5' s6' nnQ nnQ s9)->rh (apV false 6 1 24 v6 (.d (.sl 1 [aA (chF f i)])) (m1H f z prB s3 nnQ s5' s6 nnQ nnQ s9)) q u:=fun q u hq=>by
   rw[hv6,hs6];refine hO tI (L:=i) (k:=1) (cells:=ccC f i) (cs:=[aA (chF f i)]) aa rfl cc rfl rfl (fun t e=>by cases e) aa ae ?_;rw[<-XQ,<-hv6'];rw[hs6']at hq;exact hq
  have sd6:∀(q:kkQ)(u:PU q),rh (stD (m1H f z prB s3 nnQ s5' s6' nnQ nnQ s9) 1 (.ptr 3 1 1 3) v6') q u=q .junk (m1H f z prB s3' nnQ s5' s6' nnQ nnQ s9):=fun q u=>by
   rw[hs3,hs3',hv6'];rfl
  have o3:∀clr,dw clr 2=true->dw clr 6=true->dw clr 9=true->offB clr s3.2=true:=fun clr h2 h6 h9=>by rw[hs3];exact Iy f h2 h6 h9
  have o6:∀clr,offB clr s6.2=true:=fun clr=>by rw[hs6];exact fO _ _ _ _ rfl
  have o9:∀clr,offB clr s9.2=true:=fun clr=>by rw[hs9];exact fO _ _ _ _ rfl
  have o6':∀clr,offB clr s6'.2=true:=fun clr=>by rw[hs6'];rfl
  have o5':∀clr,offB clr s5'.2=true:=fun clr=>by rw[hs5'];rfl
  have g2:biI .add (I i) (.d (.int .i64 1))=some (I ((i+1:Nat):Int)):=wE aa;have e0:∀s s5 s6 s7 s8 s9,au [4,5,7,8] 0 (m0K f z 0) (m1H f z prB s nnQ s5 s6 s7 s8 s9)=m1H f z prB s nnQ nnQ s6 nnQ nnQ s9:=fun s s5 s6 s7 s8 s9=>rfl
  have bp:∀clr,offB clr prB.2=true:=fun _=>rfl
  rw[eH];refine aj ?_;simp[jV,g];refine aT ?_;simp(disch:=try exact ag)[g5,ra,ra',tm,en];refine lo (l1 _ _ _ _ _ _ _ (b1 _) (bp _) (o3 _ rfl rfl rfl) (o6 _) rfl rfl (o9 _) _ ?_);rw[<-hv5,<-hs5];simp[r6,r6',li5];refine ap6 _ .mk ?_;by_cases h0:i=0
  .subst h0;simp[sd6];refine⟨?_,?_⟩
   .have o3':∀clr,dw clr 2=true->dw clr 6=true->dw clr 9=true->offB clr s3'.2=true:=fun clr h2 h6 h9=>by rw[hs3'];exact Iy f h2 h6 h9
    simp only[clean,dT,m1H,jm,I4,bp,b1,o3' [4,5,7,8] rfl rfl rfl,o5',o6',o9,mZ,Y4,Zg,X1];rfl
   .rw[e0];rw[hs3',hs6',hs9];exact ih
  .obtain⟨n,rfl⟩:∃n,i=n+1:=⟨i-1,aa⟩;have gz:¬((n+1:Nat):Int)=0:=aa;obtain⟨l0,l2⟩:=P0 f n;have k67:plD f 67=.int .u8 (f 67):=by unfold plD;rw[tG aa]
   have q67:=P.u 67 aa (tG aa);obtain⟨mm,hmm⟩:∃mm:Nat,f 67=mm:=⟨(f 67).toNat,aa⟩
   have rb:ld1 (m1H f z prB s3' nnQ s5' s6' nnQ nnQ s9) (.ptr 0 1 67 68)=some (.d (.int .u8 mm)):=by
    rw[<-hmm,<-k67];exact Uu aa
   have rb':=(mu _ _ _ _ _).symm.trans rb;have gn:((n:Int)+1)-1=(n:Int):=aa;have sh:biI .shr (.d (.int .u8 mm)) (I n)=some (.d (.int .u8 ((mm/2^n:Nat):Int))):=Ew (by show n<=8;omega);have hlt:mm/2^n<256:=Zk (Yu _ _) aa;have an:=aiC hlt;have hcst:((mm/2^n:Nat):Int)=(mm:Int)/2^n:=af
   have an':biI .and (.d (.int .u8 ((mm:Int)/2^n))) (.d (.int .u8 1))=some (.d (.int .u8 ((mm/2^n%2:Nat):Int))):=by rw[<-hcst];exact an
   obtain⟨r2,hr2⟩:∃r2:Int,r2=((mm/2^n%2:Nat):Int):=⟨_,rfl⟩
   have en2:(1:Int)+((mm/2^n%2:Nat):Int)=((nlF f n:Nat):Int):=by
    unfold nlF;rw[hmm,Int.toNat_natCast];omega
   have hm2:=Y7 (mm/2^n) (show 0<2 by decide);rw[<-hr2]at an' en2;have hr2b:0<=r2∧r2<=1:=aa;obtain⟨v9,hv9⟩:∃s,s=Dc.v n (llC f n):=⟨_,rfl⟩;have hs9':s9=Dc.b n (llC f n):=hs9;have hs3n:s3'=wB f (n+2) n:=hs3';have hs6n:s6'=tI.b (n+2) (ccC f (n+2)):=hs6'
   have l2:=fun K hK=>U6 P (n:=n) aa (s1:=z) (s4:=nnQ) (s5:=s5') (s9:=s9) (b1 _) rfl (o5' _) (o9 _) lv5 K hK (nlF f n) 0 aa
   rw[<-hs3n,<-hs6n]at l2;have c8:(rO f n (nlF f n)).length=nlF f n*2:=by unfold rO;rw[d6 (fun k=>lkC (lkF f n k)) (n:=2) (fun _=>rfl)];simp
   obtain⟨v8,hv8⟩:∃v,v=ww.v (nlF f n) (rO f n (nlF f n)):=⟨_,rfl⟩;obtain⟨s8,hs8⟩:∃v,v=ww.b (nlF f n) (rO f n (nlF f n)):=⟨_,rfl⟩;rw[<-hv8,<-hs8]at l2;obtain⟨fr8,td8⟩:=oA ww (h:=m1H f z prB s3' nnQ s5' s6' nnQ s8 s9) (L:=nlF f n) (c:=rO f n (nlF f n)) (by rw[hs8];rfl) c8;rw[if_neg aa,Vi,<-hv8]at td8
   obtain⟨s8',hs8'⟩:∃s:Nat×Bk,s=(ww.e+1,.data ww.n (rO f n (nlF f n)) false fr8):=⟨_,rfl⟩;have td8':toD (m1H f z prB s3' nnQ s5' s6' nnQ s8 s9) v8=some (lkD (lkL f n),m1H f z prB s3' nnQ s5' s6' nnQ s8' s9):=by rw[td8,hs8'];rfl
   have li8:=yZ td8' (by rw[hv8];exact pU ..);have r9:ld1 (m1H f z prB s3' nnQ s5' s6' nnQ s8 s9) (.ptr 3 1 2 3)=some v9:=by rw[hs3',hv9];rfl
   have r9':=(mu _ _ _ _ _).symm.trans r9;have cl:(llC f n).length=n*1:=by simp[llC]
   obtain⟨v9',hv9'⟩:∃v,v=Dc.v (n+1) (llC f (n+1)):=⟨_,rfl⟩;obtain⟨s9',hs9'2⟩:∃v,v=Dc.b (n+1) (llC f (n+1)):=⟨_,rfl⟩;obtain⟨s3'',hs3''⟩:∃s,s=wB f (n+2) (n+1):=⟨_,rfl⟩
   have ap9:∀(q:kkQ)(u:PU q),q v9' (m1H f z prB s3' nnQ s5' s6' nnQ s8' s9')->rh (apV false 9 1 24 v9 (.d (.sl 1 [lkD (lkL f n)])) (m1H f z prB s3' nnQ s5' s6' nnQ s8' s9)) q u:=fun q u hq=>by
    rw[hv9,hs9'];refine hO Dc (L:=n) (k:=1) (cells:=llC f n) (cs:=[lkD (lkL f n)]) aa rfl cl rfl rfl (fun t e=>by cases e) aa ae ?_;rw[<-Vh,<-hv9'];rw[hs9'2]at hq;exact hq
   have sd9:∀(q:kkQ)(u:PU q),rh (stD (m1H f z prB s3' nnQ s5' s6' nnQ s8' s9') 1 (.ptr 3 1 2 3) v9') q u=q .junk (m1H f z prB s3'' nnQ s5' s6' nnQ s8' s9'):=fun q u=>by
    rw[hs3n,hs3'',hv9'];rfl
   simp(disch:=try exact ag)[sd6,gz,rb,rb',gn,sh,an',en2];refine lo (l2 _ ?_);simp[r9,r9',li8];refine ap9 _ .mk ?_;simp(disch:=try exact ag)[sd9];have o3':∀clr,dw clr 2=true->dw clr 6=true->dw clr 9=true->offB clr s3''.2=true:=fun clr h2 h6 h9=>by rw[hs3''];exact Iy f h2 h6 h9
   have o8':∀clr,offB clr s8'.2=true:=fun clr=>by rw[hs8'];rfl
   have o9':∀clr,offB clr s9'.2=true:=fun clr=>by rw[hs9'2];rfl
   refine⟨?_,?_⟩
   .simp only[clean,dT,m1H,jm,I4,bp,b1,o3' [4,5,7,8] rfl rfl rfl,o5',o6',o8',o9',mZ,Y4,Zg,X1];rfl
   .rw[e0];rw[hs3'',hs6',hs9'2];have e1:((n+1+1:Nat):Int)=(n:Int)+1+1:=aa;trivial
theorem UH{h2 h3:Hp}{a b c va vb vc:V}(ha:bJ h a=some (va,h1))(hb:bJ h1 b=some (vb,h2))(hc:bJ h2 c=some (vc,h3)):out (.agg [va,vb,vc]) (.agg [a,b,c]) h:=
 ⟨h3,by simp_all[bJ,aS]⟩
def dR(f:Nat->Int):Nat:=1+(f 0).toNat%5
def oO(f:Nat->Int):List LLQ:=(List.range (dR f)).map (chF f)
def tZ(f:Nat->Int):List (List Lk):=(List.range (dR f-1)).map (lkL f)
theorem RQ(P:GW f):CP Y F.iw [.agg (Lq f)] (.agg (wkC [2,3,5] (oO f) (tZ f))):=by
 refine ym ?_;have k0:plD f 0=.int .u8 (f 0):=by unfold plD;rw[tG aa]
 have q0:=P.u 0 aa (tG aa);have tm:(f 0).tmod 5=(f 0)%5:=Zx q0.1;have en:1+(f 0)%5=((dR f:Nat):Int):=by unfold dR;omega
 have hN:1<=dR f∧dR f<=5:=by have:=Y7 (f 0).toNat (show 0<5 by decide);unfold dR;omega
 have q0':0<=f 0%5∧f 0%5<=4:=aa;obtain⟨z,hz⟩:∃z:Nat×Bk,z=(1,.vars [.d nPQ,.d nPQ,.d nPQ]):=⟨_,rfl⟩
 have bx:∀(q:kkQ)(u:PU q),rh (cQ 0 (.agg (Lq f)) [nnQ,nnQ,nnQ,nnQ,nnQ,nnQ,nnQ,nnQ,nnQ,nnQ]) q u=q (.ptr 0 1 0 68) [plB f,nnQ,nnQ,nnQ,nnQ,nnQ,nnQ,nnQ,nnQ,nnQ]:=fun q u=>by
  have hl:(Lq f).length=68:=by simp[Lq]
  rfl
 have a1:∀(q:kkQ)(u:PU q),rh (alV 1 [.d nPQ,.d nPQ,.d nPQ] [plB f,nnQ,nnQ,nnQ,nnQ,nnQ,nnQ,nnQ,nnQ,nnQ]) q u=q (.ptr 1 1 0 3) (m1H f z nnQ nnQ nnQ nnQ nnQ nnQ nnQ nnQ):=fun q u=>by rw[hz];rfl
 have l2:∀(q:kkQ)(u:PU q),rh (rq 2 3 [.int .i64 0] [(0,(.d (.int .i64 2))),(1,(.d (.int .i64 3))),(2,(.d (.int .i64 5)))] (m1H f z nnQ nnQ nnQ nnQ nnQ nnQ nnQ nnQ)) q u=q (.ref 2 1 0 3 3 3) (m1H f z prB nnQ nnQ nnQ nnQ nnQ nnQ nnQ):=fun _ _=>rfl
 have a3:∀(q:kkQ)(u:PU q),rh (alV 3 [.d nPQ,.d nPQ,.d nPQ] (m1H f z prB nnQ nnQ nnQ nnQ nnQ nnQ nnQ)) q u=q (.ptr 3 1 0 3) (m1H f z prB (1,.vars [.d nPQ,.d nPQ,.d nPQ]) nnQ nnQ nnQ nnQ nnQ nnQ):=fun _ _=>rfl
 have s3:∀(q:kkQ)(u:PU q),rh (stD (m1H f z prB (1,.vars [.d nPQ,.d nPQ,.d nPQ]) nnQ nnQ nnQ nnQ nnQ nnQ) 3 (.ptr 3 1 0 3) (.agg [.ref 2 1 0 3 3 3,.d nPQ,.d nPQ])) q u=q .junk (m0K f z 0):=fun _ _=>rfl
 have r0:ld1 (m0K f z 0) (.ptr 0 1 0 68)=some (.d (.int .u8 (f 0))):=by rw[<-k0];exact Uu aa
 have r0':=(mu _ _ _ _ _).symm.trans r0;have cc:(ccC f (dR f)).length=dR f*1:=by simp[ccC]
 have cl:(llC f (dR f-1)).length=(dR f-1)*1:=by simp[llC]
 obtain⟨v6,hv6⟩:∃v,v=tI.v (dR f) (ccC f (dR f)):=⟨_,rfl⟩;obtain⟨v9,hv9⟩:∃v,v=Dc.v (dR f-1) (llC f (dR f-1)):=⟨_,rfl⟩;have k6:okV v6=true:=by rw[hv6];obtain⟨m,hm⟩:∃m,dR f=m+1:=⟨dR f-1,aa⟩;rw[hm];rfl
 have k9:okV v9=true:=by rw[hv9];cases(dR f-1)<;>rfl
 obtain⟨s6,hs6⟩:∃s,s=tI.b (dR f) (ccC f (dR f)):=⟨_,rfl⟩;obtain⟨s9,hs9⟩:∃s,s=Dc.b (dR f-1) (llC f (dR f-1)):=⟨_,rfl⟩;have e3:wB f (dR f) (dR f-1)=(1,.vars [.ref 2 1 0 3 3 3,v6,v9]):=by rw[hv6,hv9];rfl
 have t2:∀x s6 s9,toD (m1H f x prB (1,.vars [.ref 2 1 0 3 3 3,v6,v9]) nnQ nnQ s6 nnQ nnQ s9) (.ref 2 1 0 3 3 3)=some (row [2,3,5],m1H f x (1,.data 1 [di 2,di 3,di 5] true true) (1,.vars [.ref 2 1 0 3 3 3,v6,v9]) nnQ nnQ s6 nnQ nnQ s9):=fun _ _ _=>rfl
 have t6:∀x y s9,∃s6',toD (m1H f x y (1,.vars [.ref 2 1 0 3 3 3,v6,v9]) nnQ nnQ s6 nnQ nnQ s9) v6=some (.sl (dR f) (ccC f (dR f)),m1H f x y (1,.vars [.ref 2 1 0 3 3 3,v6,v9]) nnQ nnQ s6' nnQ nnQ s9):=fun x y s9=>by
  obtain⟨fr,td⟩:=oA tI (h:=m1H f x y (1,.vars [.ref 2 1 0 3 3 3,v6,v9]) nnQ nnQ s6 nnQ nnQ s9) (L:=dR f) (c:=ccC f (dR f)) (by rw[hs6];rfl) cc;rw[if_neg aa,<-hv6]at td;exact⟨_,td⟩
 have t9:∀x y s6,∃s9',toD (m1H f x y (1,.vars [.ref 2 1 0 3 3 3,v6,v9]) nnQ nnQ s6 nnQ nnQ s9) v9=some (.sl (dR f-1) (llC f (dR f-1)),m1H f x y (1,.vars [.ref 2 1 0 3 3 3,v6,v9]) nnQ nnQ s6 nnQ nnQ s9'):=fun x y s6=>by
  obtain⟨fr,td⟩:=oA Dc (h:=m1H f x y (1,.vars [.ref 2 1 0 3 3 3,v6,v9]) nnQ nnQ s6 nnQ nnQ s9) (L:=dR f-1) (c:=llC f (dR f-1)) (by rw[hs9];rfl) cl;rw[<-hv9]at td;by_cases h:dR f-1=0
  .grind
  .rw[if_neg h]at td;exact⟨_,td⟩
 have key:∀x:Nat×Bk,out (.agg (wkC [2,3,5] (oO f) (tZ f))) (.agg [.ref 2 1 0 3 3 3,v6,v9]) (m1H f x prB (1,.vars [.ref 2 1 0 3 3 3,v6,v9]) nnQ nnQ s6 nnQ nnQ s9):=fun x=>by
  obtain⟨s6',h6⟩:=t6 x (1,.data 1 [di 2,di 3,di 5] true true) s9;obtain⟨s9',h9⟩:=t9 x (1,.data 1 [di 2,di 3,di 5] true true) s6'
  have ec:V.d (.sl (dR f) (ccC f (dR f)))=lst aA (oO f):=by
   simp only[lst,oO,List.length_map,Y0,Yy];rfl
  have el:V.d (.sl (dR f-1) (llC f (dR f-1)))=lst lkD (tZ f):=by
   simp only[lst,tZ,List.length_map,Y0,Yy];rfl
  have sv:∀(v:V)(H H':Hp)(d:D),((∃y,v=.d y)∨∃s e o l c t,v=.ref s e o l c t)->toD H v=some (d,H')->bJ H v=some (.d d,H'):=fun v H H' d hv ht=>by
   rcases hv with⟨y,rfl⟩|⟨s,e,o,l,c,t,rfl⟩
   .simp only[toD,Z9,Z5]at ht
    simp_all
   grind[bJ]
  have e:=UH (sv _ _ _ _ (.inr ⟨_,_,_,_,_,_,rfl⟩) (t2 x s6 s9)) (sv v6 _ _ _ (by rw[hv6];exact pU ..) h6) (sv v9 _ _ _ (by rw[hv9];exact pU ..) h9);rw[ec,el]at e;exact e
 have main:=U8 P (z:=z) hN.2 (fun c=>by rw[hz];rfl) (exK [(Exit.exit 0,fun l12 h=>
  bnd (ldA h 3 (.ptr 3 1 0 3)) fun v13=>
  stD h 3 (.ptr 1 1 0 3) v13 fun _ h=>
  bnd (ldA h 3 (.ptr 1 1 0 3)) fun v15=>
  out (.agg (wkC [2,3,5] (oO f) (tZ f))) v15 h)]) (by
  have eH:m0K f z (dR f)=m1H f z prB (1,.vars [.ref 2 1 0 3 3 3,v6,v9]) nnQ nnQ s6 nnQ nnQ s9:=by
   unfold m0K;rw[e3,hs6,hs9]
  rw[eH];have l3:ldA (m1H f z prB (1,.vars [.ref 2 1 0 3 3 3,v6,v9]) nnQ nnQ s6 nnQ nnQ s9) 3 (.ptr 3 1 0 3)=some (.agg [.ref 2 1 0 3 3 3,v6,v9]):=rfl
  have sd:st (m1H f z prB (1,.vars [.ref 2 1 0 3 3 3,v6,v9]) nnQ nnQ s6 nnQ nnQ s9) 3 (.ptr 1 1 0 3) (.agg [.ref 2 1 0 3 3 3,v6,v9])=some (m1H f (1,.vars [.ref 2 1 0 3 3 3,v6,v9]) prB (1,.vars [.ref 2 1 0 3 3 3,v6,v9]) nnQ nnQ s6 nnQ nnQ s9):=by
   have hg:aw (m1H f z prB (1,.vars [.ref 2 1 0 3 3 3,v6,v9]) nnQ nnQ s6 nnQ nnQ s9) 1 1=.vars [.d nPQ,.d nPQ,.d nPQ]:=by rw[hz];rfl
   have ha:([V.ref 2 1 0 3 3 3,v6,v9].all okV)=true:=by simp only[List.all_cons,List.all_nil,k6,k9,aay,Y4]
   show(if([V.ref 2 1 0 3 3 3,v6,v9]:LwQ).length=3 then sto _ 1 1 0 3 [V.ref 2 1 0 3 3 3,v6,v9]else none)=_
   rw[if_pos (show([V.ref 2 1 0 3 3 3,v6,v9]:LwQ).length=3 from rfl)];unfold sto;rw[hg];simp only[];rw[if_pos ⟨rfl,af,ha⟩];rfl
  have l1:ldA (m1H f (1,.vars [.ref 2 1 0 3 3 3,v6,v9]) prB (1,.vars [.ref 2 1 0 3 3 3,v6,v9]) nnQ nnQ s6 nnQ nnQ s9) 3 (.ptr 1 1 0 3)=some (.agg [.ref 2 1 0 3 3 3,v6,v9]):=rfl
  grind[iP,AW,stD]) (dR f) 0 aa
 simp(disch:=try exact ag)[iw,bx,a1,l2,a3,s3,r0,r0',tm,en];exact main
theorem VV(x:Q):CP Y F.nJ [.agg (qT x)] (.agg (qT ((x.1.natAbs:Nat),x.2))):=by
 refine Fs ?_;have ab:=DW x.1;have e:itoa ((x.1.natAbs:Nat):Int)=ai x.1.natAbs:=by simp[itoa]
 have eq1:qT ((x.1.natAbs:Nat),x.2)=[S (ai x.1.natAbs),S (ai x.2)]:=by simp only[qT,e]
 rw[eq1];simp[nJ,qT];refine cd ab ?_;simp;simp[kX]
def plC(f:Nat->Int):LwQ:=(List.range 120).map fun j=>.d (plD f j)
def plZ(f:Nat->Int):Nat×Bk:=(1,.vars (plC f))
theorem afE{H:Hp}(hj:j<120):ld1 (plZ f::H) (.ptr 0 1 j 120)=some (.d (plD f j)):=by grind[aw,plZ,plC,ld1]
theorem IY{H:Hp}(hj:j+m<=120):ldA (plZ f::H) m (.ptr 0 1 j 120)=some (.agg ((List.range m).map fun i=>.d (plD f (j+i)))):=by grind[aw,plZ,plC,ldA,Hv]
def cnF(f:Nat->Int)(i:Nat):Nat:=1+(f (68+i)).toNat%3
def cdF(f:Nat->Int)(i:Nat):LLQ:=(List.range (cnF f i)).map fun k=>rwF f (73+i*9+k*3)
def wu:Acc:=⟨4,0,1,.none⟩
def A1:Acc:=⟨5,0,1,.none⟩
def m2H(f:Nat->Int)(s1 s2 s3 s4 s5:Nat×Bk):Hp:=[plZ f,s1,s2,s3,s4,s5]
def cdC(f:Nat->Int)(i n:Nat):LdQ:=(List.range n).map fun k=>row (rwF f (73+i*9+k*3))
theorem XO(f:Nat->Int)(i n:Nat):cdC f i (n+1)=cdC f i n++[row (rwF f (73+i*9+n*3))]:=by simp[cdC,Y3]
theorem PR(f:Nat->Int)(clr:LnQ):offB clr (plZ f).2=true:=by
 have:∀(l:LnQ),dT clr (l.map fun j=>V.d (plD f j))=true:=fun l=>by
  induction l with
  |nil=>rfl
  |cons x l ih=>trivial
 rfl
theorem XA(f:Nat->Int)(i:Nat):1<=cnF f i∧cnF f i<=3:=by grind[cnF]
theorem ad0{f:Nat->Int}(P:GW f){i:Nat}(hi:i<5){s1 s2 s5:Nat×Bk}(b1:offB [3] s1.2=true)(b2:offB [3] s2.2=true)(b5:offB [3] s5.2=true)
  (K:KL) (hK:K (.exit 2) [wu.v (cnF f i) (cdC f i (cnF f i))] (m2H f s1 s2 nnQ (wu.b (cnF f i) (cdC f i (cnF f i))) s5)) :
  ∀(m k:Nat),k+m=cnF f i ->
  lp (jR (CX Y) (.ptr 0 1 0 120) (I i)) [3] (m2H f s1 s2 nnQ nnQ s5) [wu.v k (cdC f i k),I k] (m2H f s1 s2 nnQ (wu.b k (cdC f i k)) s5) K:=by
 have k1:plD f (68+i)=.int .u8 (f (68+i)):=by unfold plD;rw[tG aa]
 have q1:=P.u (68+i) aa (tG aa)
 have ra:∀s1 s2 s3 s4 s5,ld1 (m2H f s1 s2 s3 s4 s5) (.ptr 0 1 (68+i) 120)=some (.d (.int .u8 (f (68+i)))):=fun s1 s2 s3 s4 s5=>by
  rw[<-k1];exact afE aa
 have ra':=fun s1 s2 s3 s4 s5=>(mu _ _ _ _ _).symm.trans (ra s1 s2 s3 s4 s5)
 have tm5:(i:Int).tmod 5=(i:Int):=by rw[Zx aa,Int.emod_eq_of_lt aa aa]
 have tm:(f (68+i)).tmod 3=(f (68+i))%3:=Zx q1.1;have en:1+(f (68+i))%3=((cnF f i:Nat):Int):=by unfold cnF;omega
 have q1':0<=f (68+i)%3∧f (68+i)%3<=2:=aa;have g5:(i:Int)<5:=aa;intro m
 induction m with
 | zero=>
  intro k hk;have ek:cnF f i=k:=aa;rw[ek]at hK en;refine aj ?_;simp(disch:=try exact ag)[jR,tm5,g5,ra,ra',tm,en];exact hK
 | succ m ihm=>
  intro k hk;obtain⟨h1,h3⟩:=XA f i;have ih:=ihm (k+1) aa;rw[XO]at ih;obtain⟨j,hj⟩:=nmQ (73+i*9+k*3);have hjl:j+3<=118:=aa;have k0:plD f j=.int .i8 (f j):=by unfold plD;rw[xo aa]
  have k1:plD f (j+1)=.int .i8 (f (j+1)):=by unfold plD;rw[xo aa]
  have k2:plD f (j+2)=.int .i8 (f (j+2)):=by unfold plD;rw[xo aa]
  have q0:=P.s j aa (xo aa);have q1:=P.s (j+1) aa (xo aa);have q2:=P.s (j+2) aa (xo aa)
  have r1:ldA (m2H f s1 s2 nnQ (wu.b k (cdC f i k)) s5) 3 (.ptr 0 1 j 120)=some (.agg [.d (.int .i8 (f j)),.d (.int .i8 (f (j+1))),.d (.int .i8 (f (j+2)))]):=by
   have:=IY (f:=f) (H:=[s1,s2,nnQ,wu.b k (cdC f i k),s5]) (j:=j) (m:=3) aa;rw[<-k0,<-k1,<-k2];exact this
  have r1':=(xn _ _ _ _ _ _).symm.trans r1;have c1:(cdC f i k).length=k*1:=by simp[cdC]
  have g:(k:Int)<cnF f i:=aa;have gk3:(k:Int)<3:=aa;obtain⟨x,hx⟩:=nmQ (f j);obtain⟨y,hy⟩:=nmQ (f (j+1));obtain⟨z,hz⟩:=nmQ (f (j+2));have er:rwF f j=[x.tmod 9,y.tmod 9,z.tmod 9]:=by rw[hx,hy,hz];rfl
  rw[<-hj,er]at ih;rw[<-hx,<-hy,<-hz]at r1 r1';rw[<-hx]at q0;rw[<-hy]at q1;rw[<-hz]at q2;obtain⟨s4,hs4⟩:∃s,s=wu.b k (cdC f i k):=⟨_,rfl⟩;obtain⟨v4,hv4⟩:∃s,s=wu.v k (cdC f i k):=⟨_,rfl⟩
  have fin:∀(s3:Nat×Bk)(q:kkQ)(u:PU q),q (wu.v (k+1) (cdC f i k++[row [x.tmod 9,y.tmod 9,z.tmod 9]])) (m2H f s1 s2 s3 (wu.b (k+1) (cdC f i k++[row [x.tmod 9,y.tmod 9,z.tmod 9]])) s5) ->
    rh (apV false 4 1 24 v4 (.d (.sl 1 [row [x.tmod 9,y.tmod 9,z.tmod 9]])) (m2H f s1 s2 s3 s4 s5)) q u:=fun s3 q u hq=>by
   rw[hs4,hv4];exact hO wu (L:=k) (k:=1) (cells:=cdC f i k) (cs:=[row [x.tmod 9,y.tmod 9,z.tmod 9]]) aa rfl c1 rfl rfl (fun t e=>by cases e) aa ae hq
  rw[<-hs4]at r1 r1' ⊢;rw[<-hv4];have al:∀(q:kkQ)(u:PU q),rh (alD 3 1 [.int .i8 0,.int .i8 0,.int .i8 0] (m2H f s1 s2 nnQ s4 s5)) q u=q (.ptr 3 1 0 3) (m2H f s1 s2 (1,.data 1 [.int .i8 0,.int .i8 0,.int .i8 0] true false) s4 s5):=fun _ _=>rfl
  have sd:∀(q:kkQ)(u:PU q),rh (stD (m2H f s1 s2 (1,.data 1 [.int .i8 0,.int .i8 0,.int .i8 0] true false) s4 s5) 3 (.ptr 3 1 0 3) (.agg [.d (.int .i8 x),.d (.int .i8 y),.d (.int .i8 z)])) q u=q .junk (m2H f s1 s2 (1,.data 1 [.int .i8 x,.int .i8 y,.int .i8 z] true false) s4 s5):=fun _ _=>rfl
  have t0:ld1 (m2H f s1 s2 (1,.data 1 [.int .i8 x,.int .i8 y,.int .i8 z] true false) s4 s5) (.ptr 3 1 0 3)=some (.d (.int .i8 x)):=rfl;have t1:ld1 (m2H f s1 s2 (1,.data 1 [.int .i8 x,.int .i8 y,.int .i8 z] true false) s4 s5) (.ptr 3 1 1 3)=some (.d (.int .i8 y)):=rfl;have t2:ld1 (m2H f s1 s2 (1,.data 1 [.int .i8 x,.int .i8 y,.int .i8 z] true false) s4 s5) (.ptr 3 1 2 3)=some (.d (.int .i8 z)):=rfl
  have t0':=(mu _ _ _ _ _).symm.trans t0;have t1':=(mu _ _ _ _ _).symm.trans t1;have t2':=(mu _ _ _ _ _).symm.trans t2
  have li3:∀H,cO 3 [D.int IntKind.i64 0] [(0,I (x.tmod 9)),(1,I (y.tmod 9)),(2,I (z.tmod 9))] H=some ([di (x.tmod 9),di (y.tmod 9),di (z.tmod 9)],H):=fun H=>by
   rfl
  have li1:∀H,cO 1 [nPQ] [(0,.d (.sl 3 [di (x.tmod 9),di (y.tmod 9),di (z.tmod 9)]))] H=some ([row [x.tmod 9,y.tmod 9,z.tmod 9]],H):=fun H=>by
   rfl
  refine aj ?_;simp(disch:=try exact ag)[jR,tm5,g,g5,gk3,ra,ra',tm,en,<-hj,r1,r1',al,sd,t0,t0',t1,t1',t2,t2',li3,li1];refine fin _ _ .mk ?_;have g2:biI .add (I k) (.d (.int .i64 1))=some (I ((k+1:Nat):Int)):=wE aa
  show bnd _ _
  rw[g2];have o4:∀L c,offB [3] (wu.b L c).2=true:=fun L c=>fO _ _ _ _ rfl
  have o4':∀L c,kH [3] (wu.v L c)=true:=fun L c=>gL _ _ _ _ rfl
  refine⟨?_,?_⟩
  .simp only[clean,dT,o4',m2H,jm,PR,b1,b2,b5,o4,mZ,Y4,Zg,X1];rfl
  trivial
def wF(f:Nat->Int):Q:=(((frq (f 118) (f 119).toNat).1.natAbs:Nat),(frq (f 118) (f 119).toNat).2)
def adF(f:Nat->Int):Ad where
 p:=[2,3,5]
 ch:=oO f
 lk:=tZ f
 cd:=(List.range (dR f)).map (cdF f)
 w:=wF f
def ccD(f:Nat->Int)(n:Nat):LdQ:=(List.range n).map fun i=>aA (cdF f i)
theorem XP(f:Nat->Int)(n:Nat):ccD f (n+1)=ccD f n++[aA (cdF f n)]:=by simp[ccD,Y3]
def adR(f:Nat->Int)(i:Nat):Nat×Bk:=(1,.vars [lst di [2,3,5],lst aA (oO f),lst lkD (tZ f),A1.v i (ccD f i),S (itoa (wF f).1),S (ai (wF f).2)])
theorem QR(f:Nat->Int)(h5:dw clr 5=true):offB clr (adR f i).2=true:=by
 have e1:kH clr (lst di [2,3,5])=true:=rfl;have e2:kH clr (lst aA (oO f))=true:=rfl;have e3:kH clr (lst lkD (tZ f))=true:=rfl
 simp_all[adR,offB,dT,mZ,gL,A1]
def m0H(f:Nat->Int)(z:Nat×Bk)(i:Nat):Hp:=m2H f z (adR f i) nnQ nnQ (A1.b i (ccD f i))
theorem abA(f:Nat->Int)(i:Nat):D.sl (cnF f i) (cdC f i (cnF f i))=aA (cdF f i):=by simp only[aA,cdF,List.length_map,Y0,Yy];rfl
theorem Oc(f:Nat->Int):1<=dR f∧dR f<=5:=by grind[dR]
theorem U5{f:Nat->Int}(P:GW f){z:Nat×Bk}(b1:∀c,offB c z.2=true)(K:KL)(hK:K (.exit 0) [] (m0H f z (dR f))) :
  ∀(m i:Nat),i+m=dR f ->
  lp (jS (CX Y) (.ptr 0 1 0 120) (.ptr 2 1 0 6)) [3,4] (m0H f z 0) [I i] (m0H f z i) K
 | 0,i,hi=>by
  have ei:dR f=i:=aa;rw[ei]at hK;have rc:ld1 (m0H f z i) (.ptr 2 1 1 6)=some (lst aA (oO f)):=rfl;have lc:bj (lst aA (oO f))=some (I i):=by rw[<-ei];simp[oO]
  refine aj ?_;simp[jS,rc,lc];exact hK
 | m+1,i,hi=>by
  obtain⟨c1,c5⟩:=Oc f;obtain⟨n0,n3⟩:=XA f i;have ih:=U5 P b1 K hK m (i+1) aa;have hi5:i<5:=aa;have rc:ld1 (m0H f z i) (.ptr 2 1 1 6)=some (lst aA (oO f)):=rfl;have lc:bj (lst aA (oO f))=some (I (dR f)):=by simp[oO]
  have g:(i:Int)<dR f:=aa;obtain⟨s5,hs5⟩:∃s,s=A1.b i (ccD f i):=⟨_,rfl⟩;obtain⟨v5,hv5⟩:∃s,s=A1.v i (ccD f i):=⟨_,rfl⟩;obtain⟨s2,hs2⟩:∃s,s=adR f i:=⟨_,rfl⟩;have eH:m0H f z i=m2H f z s2 nnQ nnQ s5:=by rw[hs2,hs5];rfl
  have l1:=fun K hK=>ad0 P hi5 (s1:=z) (s2:=s2) (s5:=s5) (b1 _) (by rw[hs2];exact QR f rfl) (by rw[hs5];exact fO _ _ _ _ rfl) K hK (cnF f i) 0 aa
  have c4:(cdC f i (cnF f i)).length=cnF f i*1:=by simp[cdC]
  obtain⟨v4,hv4⟩:∃v,v=wu.v (cnF f i) (cdC f i (cnF f i)):=⟨_,rfl⟩;obtain⟨s4,hs4⟩:∃v,v=wu.b (cnF f i) (cdC f i (cnF f i)):=⟨_,rfl⟩;rw[<-hv4,<-hs4]at l1;obtain⟨fr,td⟩:=oA wu (h:=m2H f z s2 nnQ s4 s5) (L:=cnF f i) (c:=cdC f i (cnF f i)) (by rw[hs4];rfl) c4;rw[if_neg aa,abA,<-hv4]at td
  obtain⟨s4',hs4'⟩:∃s:Nat×Bk,s=(wu.e+1,.data wu.n (cdC f i (cnF f i)) false fr):=⟨_,rfl⟩;have td':toD (m2H f z s2 nnQ s4 s5) v4=some (aA (cdF f i),m2H f z s2 nnQ s4' s5):=by rw[td,hs4'];rfl
  have li4:=yZ td' (by simp_all[pU]);have r3:ld1 (m2H f z s2 nnQ s4 s5) (.ptr 2 1 3 6)=some v5:=by rw[hs2,hv5];rfl
  have r3':=(mu _ _ _ _ _).symm.trans r3;have cc:(ccD f i).length=i*1:=by simp[ccD]
  obtain⟨v5',hv5'⟩:∃v,v=A1.v (i+1) (ccD f (i+1)):=⟨_,rfl⟩;obtain⟨s5',hs5'⟩:∃v,v=A1.b (i+1) (ccD f (i+1)):=⟨_,rfl⟩;obtain⟨s2',hs2'⟩:∃s,s=adR f (i+1):=⟨_,rfl⟩
  have ap5:∀(q:kkQ)(u:PU q),q v5' (m2H f z s2 nnQ s4' s5')->rh (apV false 5 1 24 v5 (.d (.sl 1 [aA (cdF f i)])) (m2H f z s2 nnQ s4' s5)) q u:=fun q u hq=>by
   rw[hv5,hs5];refine hO A1 (L:=i) (k:=1) (cells:=ccD f i) (cs:=[aA (cdF f i)]) aa rfl cc rfl rfl (fun t e=>by cases e) aa ae ?_;rw[<-XP,<-hv5'];rw[hs5']at hq;exact hq
  have sd5:∀(q:kkQ)(u:PU q),rh (stD (m2H f z s2 nnQ s4' s5') 1 (.ptr 2 1 3 6) v5') q u=q .junk (m2H f z s2' nnQ s4' s5'):=fun q u=>by
   rw[hs2,hs2',hv5'];rfl
  have g2:biI .add (I i) (.d (.int .i64 1))=some (I ((i+1:Nat):Int)):=wE aa;refine aj ?_;simp[jS,rc,lc,g];rw[eH];refine lo (l1 _ ?_);simp[r3,r3',li4];refine ap5 _ .mk ?_;simp(disch:=try exact ag)[sd5];have o2:offB [3,4] s2'.2=true:=by rw[hs2'];exact QR f rfl
  have o5:offB [3,4] s5'.2=true:=by rw[hs5'];exact fO _ _ _ _ rfl
  refine⟨?_,?_⟩
  .simp only[clean,dT,m2H,jm,PR,b1,o2,o5,mZ,Y4,Zg,X1];rfl
  .have e0:∀s4,au [3,4] 0 (m0H f z 0) (m2H f z s2' nnQ s4 s5')=m2H f z s2' nnQ nnQ s5':=fun s=>rfl
   rw[e0,hs2',hs5'];exact ih
theorem aeh(a:Int)(b:Nat):okQ (frq a b)∧(frq a b).1.natAbs<=40∧(frq a b).2<=12:=by
 have hd:=ME b;have r1 : -41<a.tmod 41:=Int.lt_tmod_of_pos a ae;have r2:=Wn a (b:=41) ae;refine⟨aaR aa,?_,?_⟩
 .unfold frq vW;rw[if_neg aa]
  show(a.tmod 41/(Nat.gcd _ _:Nat):Int).natAbs<=40
  grind[Int.natAbs_ediv_le_natAbs]
 .unfold frq vW;rw[if_neg aa]
  show(uH b).natAbs/_<=12
  exact Zu (Yu _ _) aa
theorem UG{v:V}{x:D}{a b c d e:D}(ha:norm a=a)(hb:norm b=b)(hc:norm c=c)(hd:norm d=d)(he:norm e=e)(hs:bJ h v=some (.d x,h1)):
  out (.agg [.d a,.d b,.d c,.d x,.d d,.d e]) (.agg [.d a,.d b,.d c,v,.d d,.d e]) h:=
 ⟨h1,by simp_all[bJ,aS]⟩
theorem RP(P:GW f):CP Y F.iu [.agg (plC f)] (.agg (adC (adF f))):=by
 refine yl ?_;obtain⟨c1,c5⟩:=Oc f;have mk:=RQ P;have k118:plD f 118=.int .i8 (f 118):=by unfold plD;rw[xo aa]
 have k119:plD f 119=.int .u8 (f 119):=by unfold plD;rw[tG aa]
 have q118:=P.s 118 aa (xo aa);have q119:=P.u 119 aa (tG aa);obtain⟨b,hb⟩:∃b:Nat,f 119=b:=⟨(f 119).toNat,aa⟩;have fr:=Gx (a:=f 118) (b:=b) q118 aa;have fa:=VV (frq (f 118) b);have ew:wF f=((((frq (f 118) b).1.natAbs:Nat):Int),(frq (f 118) b).2):=by unfold wF;rw[hb,Int.toNat_natCast]
 rw[<-ew]at fa;obtain⟨z,hz⟩:∃z:Nat×Bk,z=(1,.vars [.d nPQ,.d nPQ,.d nPQ,.d nPQ,.d (.str []),.d (.str [])]):=⟨_,rfl⟩
 have bx:∀(q:kkQ)(u:PU q),rh (cQ 0 (.agg (plC f)) [nnQ,nnQ,nnQ,nnQ,nnQ,nnQ]) q u=q (.ptr 0 1 0 120) [plZ f,nnQ,nnQ,nnQ,nnQ,nnQ]:=fun q u=>by
  have hl:(plC f).length=120:=by simp[plC]
  rfl
 have a1:∀(q:kkQ)(u:PU q),rh (alV 1 [.d nPQ,.d nPQ,.d nPQ,.d nPQ,.d (.str []),.d (.str [])] [plZ f,nnQ,nnQ,nnQ,nnQ,nnQ]) q u=q (.ptr 1 1 0 6) (m2H f z nnQ nnQ nnQ nnQ):=fun q u=>by rw[hz];rfl
 have l68:ldA (m2H f z nnQ nnQ nnQ nnQ) 68 (.ptr 0 1 0 120)=some (.agg (Lq f)):=by
  have:=IY (f:=f) (H:=[z,nnQ,nnQ,nnQ,nnQ]) (j:=0) (m:=68) aa;simp only[Zp]at this;exact this
 have l2:ldA (m2H f z nnQ nnQ nnQ nnQ) 2 (.ptr 0 1 118 120)=some (.agg [.d (.int .i8 (f 118)),.d (.int .u8 b)]):=by
  have:=IY (f:=f) (H:=[z,nnQ,nnQ,nnQ,nnQ]) (j:=118) (m:=2) aa;rw[<-hb,<-k118,<-k119];exact this
 have l68':=(xn _ _ _ _ _ _).symm.trans l68;have l2':=(xn _ _ _ _ _ _).symm.trans l2
 have bl:bld [(0,3),(3,1),(4,2)] [nPQ,nPQ,nPQ,nPQ,.str [],.str []] [(0,.agg (wkC [2,3,5] (oO f) (tZ f))),(2,.agg (qT (wF f)))]=some (.agg [lst di [2,3,5],lst aA (oO f),lst lkD (tZ f),.d nPQ,S (itoa (wF f).1),S (ai (wF f).2)]):=rfl
 have a2:∀(q:kkQ)(u:PU q),rh (alV 2 [.d nPQ,.d nPQ,.d nPQ,.d nPQ,.d (.str []),.d (.str [])] (m2H f z nnQ nnQ nnQ nnQ)) q u=q (.ptr 2 1 0 6) (m2H f z (1,.vars [.d nPQ,.d nPQ,.d nPQ,.d nPQ,.d (.str []),.d (.str [])]) nnQ nnQ nnQ):=fun _ _=>rfl
 have s2:∀(q:kkQ)(u:PU q),rh (stD (m2H f z (1,.vars [.d nPQ,.d nPQ,.d nPQ,.d nPQ,.d (.str []),.d (.str [])]) nnQ nnQ nnQ) 6 (.ptr 2 1 0 6) (.agg [lst di [2,3,5],lst aA (oO f),lst lkD (tZ f),.d nPQ,S (itoa (wF f).1),S (ai (wF f).2)])) q u=q .junk (m0H f z 0):=fun _ _=>rfl
 have cc:(ccD f (dR f)).length=dR f*1:=by simp[ccD]
 obtain⟨v5,hv5⟩:∃v,v=A1.v (dR f) (ccD f (dR f)):=⟨_,rfl⟩;obtain⟨s5,hs5⟩:∃s,s=A1.b (dR f) (ccD f (dR f)):=⟨_,rfl⟩;have k5:okV v5=true:=by rw[hv5];obtain⟨m,hm⟩:∃m,dR f=m+1:=⟨dR f-1,aa⟩;rw[hm];rfl
 have main:=U5 P (z:=z) (fun c=>by rw[hz];rfl) (exK [(Exit.exit 0,fun l13 h=>
  bnd (ldA h 6 (.ptr 2 1 0 6)) fun v14=>
  stD h 6 (.ptr 1 1 0 6) v14 fun _ h=>
  bnd (ldA h 6 (.ptr 1 1 0 6)) fun v16=>
  out (.agg (adC (adF f))) v16 h)]) (by
  obtain⟨A,hA⟩:∃A:LwQ,A=[lst di [2,3,5],lst aA (oO f),lst lkD (tZ f),v5,S (itoa (wF f).1),S (ai (wF f).2)]:=⟨_,rfl⟩
  have eH:m0H f z (dR f)=m2H f z (1,.vars A) nnQ nnQ s5:=by
   unfold m0H adR;rw[hA,hv5,hs5]
  rw[eH];have hl:A.length=6:=by rw[hA];rfl
  have ha:A.all okV=true:=by rw[hA];simp only[List.all_cons,List.all_nil,k5,Y4];rfl
  have l6:∀x,ldA (m2H f x (1,.vars A) nnQ nnQ s5) 6 (.ptr 2 1 0 6)=some (.agg A):=fun x=>by rw[hA];rfl
  have sd:st (m2H f z (1,.vars A) nnQ nnQ s5) 6 (.ptr 1 1 0 6) (.agg A)=some (m2H f (1,.vars A) (1,.vars A) nnQ nnQ s5):=by
   have hg:aw (m2H f z (1,.vars A) nnQ nnQ s5) 1 1=.vars [.d nPQ,.d nPQ,.d nPQ,.d nPQ,.d (.str []),.d (.str [])]:=by rw[hz];rfl
   show(if A.length=6 then sto _ 1 1 0 6 A else none)=_
   rw[if_pos hl];unfold sto;rw[hg];simp only[];rw[if_pos ⟨rfl,by grind,ha⟩];rw[hl];simp[bS,m2H]
  have l1:ldA (m2H f (1,.vars A) (1,.vars A) nnQ nnQ s5) 6 (.ptr 1 1 0 6)=some (.agg A):=by rw[hA];rfl
  simp only[iP,l6,AW,stD,sd,l1];obtain⟨fr5,td⟩:=oA A1 (h:=m2H f (1,.vars A) (1,.vars A) nnQ nnQ s5) (L:=dR f) (c:=ccD f (dR f)) (by rw[hs5];rfl) cc;rw[if_neg aa,<-hv5]at td
  have sv:bJ (m2H f (1,.vars A) (1,.vars A) nnQ nnQ s5) v5=some (.d (.sl (dR f) (ccD f (dR f))),(m2H f (1,.vars A) (1,.vars A) nnQ nnQ s5).set A1.s (A1.e+1,.data A1.n (ccD f (dR f)) false fr5)):=by
   obtain⟨m,hm⟩:∃m,dR f=m+1:=⟨dR f-1,aa⟩;have hr:∃s e o l c t,v5=.ref s e o l c t:=by rw[hv5,hm];exact⟨_,_,_,_,_,_,rfl⟩
   obtain⟨s,e,o,l,c,t,hr⟩:=hr;rw[hr]at td ⊢;simp only[bJ,td]
  have ec:V.d (.sl (dR f) (ccD f (dR f)))=lst aA (adF f).cd:=by
   simp only[lst,adF,List.length_map,Y0,Yy];rfl
  have o:=UG (a:=row [2,3,5]) (b:=.sl (oO f).length ((oO f).map aA)) (c:=.sl (tZ f).length ((tZ f).map lkD)) (d:=.str (itoa (wF f).1)) (e:=.str (ai (wF f).2)) rfl rfl rfl rfl rfl sv;rw[ec]at o;rw[hA];rw[hA]at o;exact o) (dR f) 0 aa
 simp[iu,bx,a1,l68,l68'];refine cd mk ?_ (by rfl);simp[l2,l2'];refine cd fr ?_;simp;refine cd fa ?_ (by rfl);simp[bl,a2,s2];exact main
theorem QI(f:Nat->Int)(i:Nat):(chF f i).length=ntF f i:=by simp[chF]
theorem aeI(P:GW f):cI (adF f):=by
 obtain⟨c1,c5⟩:=Oc f;obtain⟨w1,w2,w3⟩:=aeh (f 118) (f 119).toNat
 have hch:∀c∈oO f,(1<=c.length∧c.length<=3)∧∀r∈c,r.length=3∧bdR 8 r:=fun c hc=>by
  grind[oO,HB,chF,TH]
 have hcd:∀c∈(adF f).cd,(1<=c.length∧c.length<=3)∧∀r∈c,r.length=3∧bdR 8 r:=fun c hc=>by
  grind[adF,XA,cdF,TH]
 have hlk:∀l∈tZ f,1<=l.length∧l.length<=2:=fun l hl=>by
  grind[tZ,P0,lkL]
 have lch:(oO f).length=dR f:=by simp[oO]
 have llk:(tZ f).length=dR f-1:=by simp[tZ]
 refine ⟨abc.hp,⟨by show(tZ f).length+1=(oO f).length;omega,by show(oO f).length<=64;omega,fun c hc=>(hch c hc).2,fun c hc=>by have:=(hch c hc).1;omega,fun l hl=>by have:=hlk l hl;omega,fun i hi=>?_⟩,fun l hl=>(hlk l hl).1,fun c hc=>(hch c hc).1.1,by show(oO f).length<=5;omega,
  by show((List.range (dR f)).map (cdF f)).length=(oO f).length;grind,fun l hl=>by grind,fun l hl=>(hcd l hl).2,⟨⟨w1.1,by show Nat.gcd (((frq (f 118) (f 119).toNat).1.natAbs:Nat):Int).natAbs _=1;rw[Int.natAbs_natCast];exact w1.2⟩,Int.natCast_nonneg _,by show(((frq (f 118) (f 119).toNat).1.natAbs:Nat):Int)<=1000;omega,by show(frq (f 118) (f 119).toNat).2<=1000;omega⟩⟩
 have hi':i<dR f-1:=by rw[<-llk];exact hi
 show(nth [] (tZ f) i).all (BJ (nth [] (oO f) i).length (nth [] (oO f) (i+1)).length)=true
 unfold tZ oO;rw[jH _ _ hi',jH _ _ (show i<dR f by omega),jH _ _ (show i+1<dR f by omega),QI,QI];refine Zv.2 fun x hx=>?_
 simp only[lkL,Zc,X6]at hx;obtain⟨k,hk,rfl⟩:=hx;have hk2:=(P0 f i).2;have n1:=HB f i;have n2:=HB f (i+1);have q1:=P.u (51+i*4+k*2) aa (tG aa);have q2:=P.u (51+i*4+k*2+1) aa (tG aa);refine LV.2 ⟨⟨Int.tmod_nonneg _ q1.1,Wn _ aa⟩,Int.tmod_nonneg _ q2.1,Wn _ aa⟩
theorem SC(f:Nat->Int):tE (adF f).p:=YK
def byB(x y:Int):Nat×Bk:=(1,.vars [I x,I y])
theorem ov(P:GW f){c x y:Int}(hc : -9223372036854775808<=c∧c<=9223372036854775807):CP Y F.aB [.agg (plC f),I c,.agg [I x,I y]] (B true):=by
 refine et ?_;have mk:=RP P;have G:=aeI P;have hb:=SC f;obtain⟨a,ha⟩:=nmQ (adF f);rw[<-ha]at mk G hb;have hlen:=G.wk.len;have hcl:=G.cl;have h5:=G.five
 have bx:∀(q:kkQ)(u:PU q),rh (cQ 0 (.agg (plC f)) [nnQ,nnQ,nnQ]) q u=q (.ptr 0 1 0 120) [plZ f,nnQ,nnQ]:=fun q u=>by
  have hl:(plC f).length=120:=by simp[plC]
  rfl
 have bx1:∀(q:kkQ)(u:PU q),rh (cQ 1 (.agg [I x,I y]) [plZ f,nnQ,nnQ]) q u=q (.ptr 1 1 0 2) [plZ f,byB x y,nnQ]:=fun _ _=>rfl
 have l120:ldA [plZ f,byB x y,nnQ] 120 (.ptr 0 1 0 120)=some (.agg (plC f)):=by
  have:=IY (f:=f) (H:=[byB x y,nnQ]) (j:=0) (m:=120) aa;simp only[Zp]at this;exact this
 have l120':=(xn _ _ _ _ _ _).symm.trans l120
 have a1:∀(q:kkQ)(u:PU q),rh (alV 2 [.d nPQ,.d nPQ,.d nPQ,.d nPQ,.d (.str []),.d (.str [])] [plZ f,byB x y,nnQ]) q u=q (.ptr 2 1 0 6) [plZ f,byB x y,(1,.vars [.d nPQ,.d nPQ,.d nPQ,.d nPQ,.d (.str []),.d (.str [])])]:=fun _ _=>rfl
 have sd:∀(q:kkQ)(u:PU q),rh (stD [plZ f,byB x y,(1,.vars [.d nPQ,.d nPQ,.d nPQ,.d nPQ,.d (.str []),.d (.str [])])] 6 (.ptr 2 1 0 6) (.agg (adC a))) q u=q .junk [plZ f,byB x y,adB a]:=fun _ _=>rfl
 have l6:ldA [plZ f,byB x y,adB a] 6 (.ptr 2 1 0 6)=some (.agg (adC a)):=rfl;have l3:ldA [plZ f,byB x y,adB a] 3 (.ptr 2 1 0 6)=some (.agg (wkC a.p a.ch a.lk)):=rfl;have l2:ldA [plZ f,byB x y,adB a] 2 (.ptr 1 1 0 2)=some (.agg [I x,I y]):=rfl;have r0:ld1 [plZ f,byB x y,adB a] (.ptr 1 1 0 2)=some (I x):=rfl;have r1:ld1 [plZ f,byB x y,adB a] (.ptr 1 1 1 2)=some (I y):=rfl
 have r3:ld1 [plZ f,byB x y,adB a] (.ptr 2 1 3 6)=some (lst aA a.cd):=rfl;obtain⟨H,hH⟩:∃H:Hp,H=[plZ f,byB x y,adB a]:=⟨_,rfl⟩;rw[<-hH]at sd l6 l3 l2 r0 r1 r3;have l6':=(xn _ _ _ _ _ _).symm.trans l6;have l3':=(xn _ _ _ _ _ _).symm.trans l3;have l2':=(xn _ _ _ _ _ _).symm.trans l2;have r0':=(mu _ _ _ _ _).symm.trans r0;have r1':=(mu _ _ _ _ _).symm.trans r1
 have r3':=(mu _ _ _ _ _).symm.trans r3
 have sp:∀H,aS H [.agg (plC f)]=some ([.agg (plC f)],H):=fun H=>by
  rfl
 have lc:bj (lst aA a.cd)=some (I a.cd.length):=rfl;have lz:bj (szV [])=some (I 0):=rfl;by_cases one:(0<=c∧c<a.cd.length)∧0<=x∧x<(nth [] a.cd c.toNat).length
 .obtain⟨⟨c0,c1⟩,x0,x1⟩:=one;obtain⟨i,rfl⟩:∃i:Nat,c=i:=⟨c.toNat,aa⟩;obtain⟨k,rfl⟩:∃k:Nat,x=k:=⟨x.toNat,aa⟩;rw[Int.toNat_natCast]at x1;have hi:i<a.cd.length:=aa;have oo:=vz G hi (k:=k) aa;have lo:=aaQ G hb hi (k:=k) aa;have sa:=Hk (r:=szI a.w.2 (uB a i k)) (by rw[ci,(G.ownW hi aa).1];have:=(eh G.hp).1.2.1;omega)
  have i1:∀H:Hp,ixV H 1 (lst aA a.cd) (I i)=some (.dptr (a.cd.map aA) i):=fun H=>aJ aA _ H rfl hi
  have i2:∀H:Hp,ld1 H (.dptr (a.cd.map aA) i)=some (mat (nth [] a.cd i)):=fun H=>aC aA [] a.cd H hi
  have lm:bj (mat (nth [] a.cd i))=some (I (nth [] a.cd i).length):=rfl;by_cases two:(i:Int)+1<a.cd.length∧0<=y∧y<(nth [] a.cd (i+1)).length
  .obtain⟨t0,y0,y1⟩:=two;obtain⟨j,rfl⟩:∃j:Nat,y=j:=⟨y.toNat,aa⟩;have so:=rS G (i:=i) (f:=k) (t:=j) aa aa aa;have ls:=aaP G hb (i:=i) (f:=k) (t:=j) aa aa aa;have lr:=RR (p:=a.p) G.wk (by simp_all[eh,cI.hp]) (by have:=(eh G.hp).1.2.1;omega) aa G.lkn
   have sb:=Hk (r:=szI 1 (zJ a i k j)) (by rw[ci,(G.stepV (i:=i) (f:=k) (t:=j) aa aa aa).1];have:=(eh G.hp).1.2.1;omega);have j1:∀H:Hp,ixV H 1 (lst aA a.cd) (I ((i:Int)+1))=some (.dptr (a.cd.map aA) (i+1)):=fun H=>aJ aA _ H aa aa
   have j2:∀H:Hp,ld1 H (.dptr (a.cd.map aA) (i+1))=some (mat (nth [] a.cd (i+1))):=fun H=>aC aA [] a.cd H aa
   have lm1:bj (mat (nth [] a.cd (i+1)))=some (I (nth [] a.cd (i+1)).length):=rfl;simp[aB,bx,bx1];refine cd Oj ?_;simp[l120,l120'];refine cd mk ?_ (sp _);simp[a1,sd,l6,l6',r0,r0'];refine cd oo ?_;simp[l6,l6',l2,l2'];refine cd so ?_;simp(disch:=try exact ag)[r3,r3',l6,l6',lc,r0,r0',r1,r1',i1,i2,lm,j1,j2,lm1,c0,c1,x0,x1,t0,y0,y1]
   refine cd lo ?_;simp;refine cd sa ?_ (by rfl);simp[l6,l6',l3,l3',l2,l2'];refine cd lr ?_;simp[l2,l2'];refine cd ls ?_;simp;refine cd sb ?_ (by rfl);simp
  .have se:=nT G (i:=i) (f:=k) (t:=y) aa aa (by grind);by_cases t0:(i:Int)+1<a.cd.length
   .have j1:∀H:Hp,ixV H 1 (lst aA a.cd) (I ((i:Int)+1))=some (.dptr (a.cd.map aA) (i+1)):=fun H=>aJ aA _ H aa aa
    have j2:∀H:Hp,ld1 H (.dptr (a.cd.map aA) (i+1))=some (mat (nth [] a.cd (i+1))):=fun H=>aC aA [] a.cd H aa
    have lm1:bj (mat (nth [] a.cd (i+1)))=some (I (nth [] a.cd (i+1)).length):=rfl;by_cases y0:0<=y
    .have y1:¬y<(nth [] a.cd (i+1)).length:=aa;simp[aB,bx,bx1];refine cd Oj ?_;simp[l120,l120'];refine cd mk ?_ (sp _);simp[a1,sd,l6,l6',r0,r0'];refine cd oo ?_;simp[l6,l6',l2,l2'];refine cd se ?_;simp(disch:=try exact ag)[r3,r3',l6,l6',lc,lz,r0,r0',r1,r1',i1,i2,lm,j1,j2,lm1,c0,c1,x0,x1,t0,y0,y1];refine cd lo ?_;simp
     refine cd sa ?_ (by rfl);simp
    .simp[aB,bx,bx1];refine cd Oj ?_;simp[l120,l120'];refine cd mk ?_ (sp _);simp[a1,sd,l6,l6',r0,r0'];refine cd oo ?_;simp[l6,l6',l2,l2'];refine cd se ?_;simp(disch:=try exact ag)[r3,r3',l6,l6',lc,lz,r0,r0',r1,r1',i1,i2,lm,j1,j2,lm1,c0,c1,x0,x1,t0,y0];refine cd lo ?_;simp;refine cd sa ?_ (by rfl);simp
   .simp[aB,bx,bx1];refine cd Oj ?_;simp[l120,l120'];refine cd mk ?_ (sp _);simp[a1,sd,l6,l6',r0,r0'];refine cd oo ?_;simp[l6,l6',l2,l2'];refine cd se ?_;simp(disch:=try exact ag)[r3,r3',l6,l6',lc,lz,r0,r0',r1,r1',i1,i2,lm,c0,c1,x0,x1,t0];refine cd lo ?_;simp;refine cd sa ?_ (by rfl);simp
 .have oe:=rV G (i:=c) (k:=x) aa;have se:=nT G (i:=c) (f:=x) (t:=y) hc.1 hc.2 aa;by_cases c0:0<=c
  .by_cases c1:c<a.cd.length
   .have i1:∀H:Hp,ixV H 1 (lst aA a.cd) (I c)=some (.dptr (a.cd.map aA) c.toNat):=fun H=>aJ aA _ H aa aa
    have i2:∀H:Hp,ld1 H (.dptr (a.cd.map aA) c.toNat)=some (mat (nth [] a.cd c.toNat)):=fun H=>aC aA [] a.cd H aa
    have lm:bj (mat (nth [] a.cd c.toNat))=some (I (nth [] a.cd c.toNat).length):=rfl;by_cases x0:0<=x
    .have x1:¬x<(nth [] a.cd c.toNat).length:=aa;simp[aB,bx,bx1];refine cd Oj ?_;simp[l120,l120'];refine cd mk ?_ (sp _);simp[a1,sd,l6,l6',r0,r0'];refine cd oe ?_;simp[l6,l6',l2,l2'];refine cd se ?_;simp[r3,r3',l6,l6',lc,lz,r0,r0',i1,i2,lm,c0,c1,x0,x1]
    .simp[aB,bx,bx1];refine cd Oj ?_;simp[l120,l120'];refine cd mk ?_ (sp _);simp[a1,sd,l6,l6',r0,r0'];refine cd oe ?_;simp[l6,l6',l2,l2'];refine cd se ?_;simp[r3,r3',l6,l6',lc,lz,r0,r0',i1,i2,lm,c0,c1,x0]
   .simp[aB,bx,bx1];refine cd Oj ?_;simp[l120,l120'];refine cd mk ?_ (sp _);simp[a1,sd,l6,l6',r0,r0'];refine cd oe ?_;simp[l6,l6',l2,l2'];refine cd se ?_;simp[r3,r3',l6,l6',lc,lz,r0,r0',c0,c1]
  .simp[aB,bx,bx1];refine cd Oj ?_;simp[l120,l120'];refine cd mk ?_ (sp _);simp[a1,sd,l6,l6',r0,r0'];refine cd oe ?_;simp[l6,l6',l2,l2'];refine cd se ?_;simp[r3,r3',l6,l6',lc,lz,r0,r0',c0]
mutual
def WD(w:World):D->Value->Prop
 |.int k n,v=>v=.int k n
 |.bool b,v=>v=.bool b
 |.str s,v=>v=.string ⟨⟨s⟩⟩
 |.pl u,v=>v=u∧plain u=true∧okCell u=true
 | .sl len cells,v=>(len=0∧cells=[]∧(v=.slice none 0 0∨∃a,v=.slice (some a) 0 0)) ∨
   ∃ c o cap n cs e fz,v=.slice (some ⟨c,o,none⟩) len cap∧len<=cap∧0<n∧cells.length=len*n ∧
    w.heap[c]?=some (.cells cs e fz)∧o+cells.length<=cs.size∧WDs w cells ((cs.toList.drop o).take cells.length)
def WDs(w:World):LdQ->LvQ->Prop
 |[],l=>l=[]
 |x::xs,l=>∃v vs,l=v::vs∧WD w x v∧WDs w xs vs
end
structure Ly(w:World)(φ:bG)(F:Nat->Prop)(H:AH):Prop where
 rel:bn X φ H w
 wf:WF H
 fr:∀c,F c->c<H.n∧∃x,H.get c=some x∧x.st=1
 ro:∀c x,H.get c=some x->x.wr=false
 top:∀b p,φ b=some p->b<H.n
 pg:∃p,φ od=some p
structure uS(φ:bG)(F:Nat->Prop)(H:AH)(φ':bG)(F':Nat->Prop)(H':AH):Prop where
 n:H.n<=H'.n
 le:PLe φ φ'
 fm:∀c,F c->F' c
 keep:∀c,c<H.n->H'.get c=H.get c
theorem uS.refl(φ:bG)(F:Nat->Prop)(H:AH):uS φ F H φ F H:=⟨Z7 _,PLe.refl _,fun _ h=>h,fun _ _=>rfl⟩
theorem uS.trans{φ φ1 φ2:bG}{F F1 F2:Nat->Prop}{H H1 H2:AH}(a:uS φ F H φ1 F1 H1)(b:uS φ1 F1 H1 φ2 F2 H2):uS φ F H φ2 F2 H2:=
 ⟨Zu a.n b.n,a.le.trans b.le,fun c h=>b.fm c (a.fm c h),fun c h=>by rw[b.keep c (Z1 h a.n),a.keep c h]⟩
theorem uS.leF{φ φ':bG}{F F':Nat->Prop}{H H':AH}{w:World}(L:Ly w φ F H)(a:uS φ F H φ' F' H'):LeF F F' H H':=
 ⟨a.fm,fun c hc=>a.keep c (L.fr c hc).1,fun c x hx h0=>⟨x,by grind[keep,AH.get_lt],h0⟩⟩
def roB(b n:Nat)(cells:LvQ):Blk:={cells,st:=1,wr:=false,fam:=b,start:=0,shared:=false,exact:=true,esz:=n,ver:=1}
theorem Ly.push{w:World}{φ:bG}{F:Nat->Prop}{H:AH}(L:Ly w φ F H){c o n:Nat}{us vs:LvQ}{cs:Array Value}{e:TypeId}{fz:Nat×Nat}(hh:w.heap[c]?=some (.cells cs e fz))
  (hlen:us.length=vs.length) (ho:o+us.length<=cs.size) (hvs:vs=(cs.toList.drop o).take us.length) (hr:am φ us vs) :
  Ly w (zj φ H.n ⟨c,o,us.length,n,cs.size,true⟩) (fun x=>F x∨x=H.n) (H.push (roB H.n n us)) ∧
  uS φ F H (zj φ H.n ⟨c,o,us.length,n,cs.size,true⟩) (fun x=>F x∨x=H.n) (H.push (roB H.n n us)):=by
 have hnone:φ H.n=none:=by
  cases hq:φ H.n with
  |none=>rfl
  |some p=>have:=L.top _ p hq;omega
 have hle:PLe φ (zj φ H.n ⟨c,o,us.length,n,cs.size,true⟩):=PLe.add hnone;have hn:(H.push (roB H.n n us)).n=H.n+1:=rfl;have old:∀b,b<H.n->(H.push (roB H.n n us)).get b=H.get b:=fun b hb=>AH.get_push aa
 have new:(H.push (roB H.n n us)).get H.n=some (roB H.n n us):=AH.get_push_new H _
 have ro:∀b x,(H.push (roB H.n n us)).get b=some x->x.wr=false:=fun b x hx=>by
  rcases Zi b H.n with h|h
  .grind[ro]
  .have hb:b=H.n:=by have:=AH.get_lt hx;omega
   subst hb;rw[new]at hx;cases hx;rfl
 refine ⟨⟨⟨fun g hg=>?_,fun b p hp=>?_,fun b p x i v hp hx h1 hv=>?_,fun b p x i hp hx h1 hi=>?_,fun b b' p p' x x' _ _ hx hx' _ _ _ _=>.inl ⟨ro b x hx,ro b' x' hx'⟩⟩,?_,fun b hb=>?_,ro,fun b p hp=>?_,L.pg.imp fun p hp=>hle _ p hp⟩,
  ⟨aa,hle,fun x h=>.inl h,old⟩⟩
 .obtain⟨p,hp,h1⟩:=L.rel.glob g hg;exact⟨p,hle g p hp,h1⟩
 .by_cases hb:b=H.n
  .subst hb;rw[dU]at hp;cases hp;exact⟨_,cs,e,fz,new,by simp[roB],rfl,rfl,rfl,hh,rfl,ho⟩
  .rw[fW hb]at hp;obtain⟨x,r⟩:=L.rel.dom b p hp
   grind[top]
 .by_cases hb:b=H.n
  .subst hb;rw[dU]at hp;cases hp;rw[new]at hx;cases hx;obtain⟨v',h1,h2⟩:=hr.at (i:=i) hv
   grind[av.mono,cell_of_heap]
  .rw[fW hb]at hp;rw[old b (L.top b p hp)]at hx;obtain⟨v',h2,h3⟩:=L.rel.cell b p x i v hp hx h1 hv
   grind[av.mono]
 .grind
 .refine⟨by simp[AH.push,L.wf.len],fun b x hx=>?_⟩;rcases Zi b H.n with h|h
  .rw[old b h]at hx;exact L.wf.fam b x hx
  .have hb:b=H.n:=by have:=AH.get_lt hx;omega
   subst hb;rw[new]at hx;cases hx;trivial
 .rcases hb with hb|rfl
  .obtain⟨h1,x,h2,h3⟩:=L.fr b hb;exact⟨aa,x,by grind,h3⟩
  .exact⟨aa,_,new,rfl⟩
 .by_cases hb:b=H.n
  .omega
  .rw[fW hb]at hp;have:=L.top b p hp;omega
mutual
theorem lay{w:World}:∀(d:D)(v:Value){φ:bG}{F:Nat->Prop}{H:AH},Ly w φ F H->WD w d v ->
  ∃φ' F' H' u,Ly w φ' F' H'∧uS φ F H φ' F' H'∧av φ' u v∧RD F' H' d u
 |.int k n,v,φ,F,H,L,h=>⟨φ,F,H,v,L,uS.refl ..,by simp only[WD]at h;subst h;rfl,h⟩
 |.bool b,v,φ,F,H,L,h=>⟨φ,F,H,v,L,uS.refl ..,by simp only[WD]at h;subst h;rfl,h⟩
 |.str s,v,φ,F,H,L,h=>⟨φ,F,H,v,L,uS.refl ..,by simp only[WD]at h;subst h;rfl,h⟩
 |.pl u,v,φ,F,H,L,h=>⟨φ,F,H,v,L,uS.refl ..,by grind[WD,av.of_plain],h⟩
 | .sl len cells,v,φ,F,H,L,h=>by
  simp only[WD]at h;rcases h with⟨rfl,rfl,rfl|⟨a,rfl⟩⟩|⟨c,o,cap,n,cs,e,fz,rfl,hlc,hn,hlen,hh,ho,hds⟩
  .exact⟨φ,F,H,.slice none 0 0,L,uS.refl ..,rfl,.inl ⟨rfl,rfl,.inl rfl⟩⟩
  .obtain⟨p,hp⟩:=L.pg;obtain⟨x,_,_,_,hx,h0,_⟩:=L.rel.dom _ _ hp;exact⟨φ,F,H,.slice (some ⟨od,0,none⟩) 0 0,L,uS.refl ..,⟨a,0,rfl,.inr ⟨rfl,rfl,rfl,rfl,p,hp⟩⟩,.inl ⟨rfl,rfl,.inr ⟨_,_,_,rfl,x,hx,h0⟩⟩⟩
  .obtain⟨φ1,F1,H1,us,L1,E1,r1,d1⟩:=lays cells _ L hds;have hl:us.length=cells.length:=by have:=d1.length;omega
   obtain⟨L2,E2⟩:=L1.push (us:=us) (n:=n) (o:=o) hh (by grind) aa (by rw[hl]) r1;refine⟨_,_,_,.slice (some ⟨H1.n,0,none⟩) len cap,L2,E1.trans E2,?_,?_⟩
   .refine⟨⟨c,o,none⟩,cap,rfl,.inl ⟨rfl,rfl,_,dU ..,rfl,rfl,.inl rfl⟩⟩
   .have new:(H1.push (roB H1.n n us)).get H1.n=some (roB H1.n n us):=AH.get_push_new H1 _;by_cases h0:len=0
    .subst h0;exact .inl ⟨rfl,Zf aa,.inr ⟨_,_,_,rfl,_,new,by simp[roB]⟩⟩
    .refine .inr ⟨H1.n,0,cap,us,n,rfl,aa,hlc,hn,hlen,.inr rfl,?_,RDs.mono (E2.leF L1) _ _ d1,_,new,.inl rfl⟩;rw[mW new rfl (by show 0+cells.length<=us.length;omega)]
     show some ((us.drop 0).take cells.length)=_
     grind
theorem lays{w:World}:∀(ds:LdQ)(vs:LvQ){φ:bG}{F:Nat->Prop}{H:AH},Ly w φ F H->WDs w ds vs ->
  ∃φ' F' H' us,Ly w φ' F' H'∧uS φ F H φ' F' H'∧am φ' us vs∧RDs F' H' ds us
 |[],vs,φ,F,H,L,h=>⟨φ,F,H,[],L,uS.refl ..,by trivial,rfl⟩
 | d::ds,vs,φ,F,H,L,h=>by
  simp only[WDs]at h;obtain⟨v,vs,rfl,h1,h2⟩:=h;obtain⟨φ1,F1,H1,u,L1,E1,r1,d1⟩:=lay d v L h1;obtain⟨φ2,F2,H2,us,L2,E2,r2,d2⟩:=lays ds vs L1 h2;exact⟨φ2,F2,H2,u::us,L2,E1.trans E2,⟨v,vs,rfl,av.mono E2.le u v r1,r2⟩,⟨u,us,rfl,RD.mono (E2.leF L1) _ _ d1,d2⟩⟩
end
def aas:Nat->List Blk
 |0=>[]
 |n+1=>yF::aas n
theorem Lp:∀(n i:Nat)(x:Blk),(aas n)[i]?=some x->x=yF
 |0,_,_,h=>by trivial
 |n+1,0,x,h=>by grind[aas]
 |n+1,i+1,x,h=>Lp n i x (by trivial)
def BA:LvQ:=[.int .u64 1,.int .u64 10,.int .u64 100,.int .u64 1000,.int .u64 10000,.int .u64 100000,.int .u64 1000000,.int .u64 10000000,.int .u64 100000000,.int .u64 1000000000,.int .u64 10000000000,.int .u64 100000000000,
 .int .u64 1000000000000,.int .u64 10000000000000,.int .u64 100000000000000,.int .u64 1000000000000000,.int .u64 10000000000000000,.int .u64 100000000000000000,.int .u64 1000000000000000000,.int .u64 10000000000000000000]
def QU(w:World):Prop:=∃cs e fz,w.heap[od]?=some (.cells cs e fz)∧20<=cs.size∧BA=cs.toList.take 20
def H00:AH:=⟨od,aas od⟩
theorem ab3{b:Nat}{x:Blk}(h:H00.get b=some x):x=yF:=by
 unfold AH.get at h;split at h
 .exact Lp _ _ _ h
 .trivial
theorem start{w:World}(hp:QU w):∃φ F H,Ly w φ F H∧p9 Y F H:=by
 obtain⟨cs,e,fz,hh,hsz,hcs⟩:=hp
 let φ:bG:=fun b=>if b=od then some ⟨od,0,20,1,cs.size,true⟩else none
 let H:AH:=H00.push (roB od 1 BA)
 have hn:H.n=od+1:=rfl;have new:H.get od=some (roB od 1 BA):=AH.get_push_new H00 _
 have old:∀{b x},b≠od->H.get b=some x->x=yF:=fun{b x} hb hx=>by
  grind[H00,AH.get_push,ab3]
 have hφ:∀{b p},φ b=some p->b=od∧p=⟨od,0,20,1,cs.size,true⟩:=fun{b p} h=>by
  grind
 have ro:∀b x,H.get b=some x->x.wr=false:=fun b x hx=>by
  by_cases hb:b=od
  .subst hb;rw[new]at hx;cases hx;rfl
  .rw[old hb hx];rfl
 have L:Ly w φ (· = od) H:=by
  refine⟨⟨fun g hg=>?_,fun b p hp=>?_,fun b p x i v hp hx h1 hv=>?_,fun b p x i hp hx h1 hi=>?_,fun b b' p p' x x' _ _ hx hx' _ _ _ _=>.inl ⟨ro b x hx,ro b' x' hx'⟩⟩,?_,?_,ro,fun b p hp=>?_,⟨⟨od,0,20,1,cs.size,true⟩,by rfl⟩⟩
  .have:g=od:=by simpa[X]using hg
   exact⟨⟨od,0,20,1,cs.size,true⟩,by grind,this.symm,rfl⟩
  .grind[roB]
  .obtain⟨rfl,rfl⟩:=hφ hp;rw[new]at hx;cases hx;have hv':BA[i]?=some v:=hv;refine⟨v,?_,?_⟩
   .grind[cell_of_heap]
   .have hm:v∈BA:=W0 hv';have:BA.all plain=true:=rfl
    grind[av.of_plain]
  .grind
  .refine⟨by rfl,fun b x hx=>?_⟩;by_cases hb:b=od
   .subst hb;rw[new]at hx;cases hx;trivial
   .rw[old hb hx];exact Yl _
  .rintro c rfl;exact⟨aa,_,new,rfl⟩
  .grind
 refine⟨φ,_,H,L,fun g cs' hg=>?_⟩
 have hgp:g=od∧cs'=Ll:=by
  simp only[Y]at hg;split at hg
  .simp_all
  .cases hg
 obtain⟨rfl,rfl⟩:=hgp;refine⟨X7 _,rfl,BA,?_,?_⟩
 .rfl
 simp[Ll,BA,RDs,RD]
open Go.ChangeShapes Go.WideShapes Go.ChangeAt Go.RowKit
variable{HH:Type}{enc:TypeId×Value->HH}{P:Program}{w:World}{base:Nat}{held:Bool}
theorem MQ{a:Addr}{v:Value}(h:w.cell? a=some v):∃cs e fz,w.heap[a.block]?=some (.cells cs e fz)∧a.spot=none∧cs[a.off]?=some v:=by
 unfold World.cell? at h;split at h
 .rename_i c e fz hc;split at h
  .cases h
  .rename_i hs;refine⟨c,e,fz,hc,?_,h⟩;cases hq:a.spot with
   |none=>rfl
   |some s=>rw[hq]at hs;simp at hs
 .cases h
theorem addr_add(a:Addr)(hs:a.spot=none)(i:Nat):a.add i=⟨a.block,a.off+i,none⟩:=by
 unfold Addr.add;split
 .rename_i h;subst h;cases a;simp at hs ⊢;exact hs
 .rfl
theorem Ib{a:Addr}(h:∀i v,vs[i]?=some v->w.cell? (a.add i)=some v)(hp:0<vs.length):
  ∃cs e fz,w.heap[a.block]?=some (.cells cs e fz)∧a.spot=none∧a.off+vs.length<=cs.size∧vs=(cs.toList.drop a.off).take vs.length:=by
 obtain⟨v0,h0⟩:∃v,vs[0]?=some v:=⟨vs[0],by simp[hp]⟩;obtain⟨cs,e,fz,hc,hs,_⟩:=MQ (h 0 v0 h0);have ha0:a.add 0=a:=by unfold Addr.add;simp
 rw[ha0]at hc hs
 have at_:∀i v,vs[i]?=some v->cs[a.off+i]?=some v:=fun i v hv=>by
  obtain⟨cs',e',fz',hc',_,hv'⟩:=MQ (h i v hv);rw[addr_add a hs]at hc' hv';simp only at hc' hv';rw[hc]at hc';cases hc';exact hv'
 have hle:a.off+vs.length<=cs.size:=by
  have hl:=at_ (vs.length-1) vs[vs.length-1] (by rw[List.getElem?_eq_getElem]);have:=(Array.getElem?_eq_some_iff.1 hl).1;omega
 refine⟨cs,e,fz,hc,hs,hle,?_⟩;apply X8;intro i;by_cases hi:i<vs.length
 .rw[List.getElem?_take_of_lt hi,List.getElem?_drop];have:=at_ i vs[i] (by rw[List.getElem?_eq_getElem hi]);rw[List.getElem?_eq_getElem hi];simpa using this.symm
 .rw[List.getElem?_eq_none aa,List.getElem?_eq_none bK]
inductive Sh where
 |int (k:IntKind)
 |bool
 |str
 |sl (e:Sh)
 |ar (n:Nat) (e:Sh)
 |st (fs:List Sh)
variable{e s:Sh}
mutual
/-- A type has a shape. -/
def Typ(P:Program):Sh->TypeId->Prop
 |.int k,t=>P.underlying t=some (.int k)∧P.cellsOf t=1
 |.bool,t=>P.underlying t=some .bool∧P.cellsOf t=1
 |.str,t=>P.underlying t=some .string∧P.cellsOf t=1
 |.sl e,t=>∃u,P.underlying t=some (.slice u)∧P.cellsOf t=1∧0<P.cellsOf u∧Typ P e u
 |.ar n e,t=>∃u,P.underlying t=some (.array n u)∧P.cellsOf t=n*P.cellsOf u∧Typ P e u
 |.st fs,t=>∃l:List Field,P.underlying t=some (.struct l.toArray)∧SF P fs l 0 (P.cellsOf t)
def SF(P:Program):List Sh->List Field->Nat->Nat->Prop
 |[],l,o,n=>l=[]∧o=n
 |s::ss,l,o,n=>∃f r,l=f::r∧f.offset=o∧Typ P s f.type∧SF P ss r (o+P.cellsOf f.type) n
end
mutual
/-- Cells of a shape. -/
def Dat:Sh->LdQ->Prop
 |.int k,ds=>∃n,ds=[.int k n]∧(Lit.int k n).wf=true
 |.bool,ds=>∃b,ds=[.bool b]
 |.str,ds=>∃s:LuQ,ds=[.str s]∧s.length<=maxLen
 |.sl e,ds=>∃xs:List LdQ,ds=[.sl xs.length xs.flatten]∧∀x∈xs,Dat e x
 |.ar n e,ds=>∃xs:List LdQ,ds=xs.flatten∧xs.length=n∧∀x∈xs,Dat e x
 |.st ss,ds=>aeO ss ds
def aeO:List Sh->LdQ->Prop
 |[],ds=>ds=[]
 |s::ss,ds=>∃a b,ds=a++b∧Dat s a∧aeO ss b
end
theorem WDs.append:∀{a b:LdQ}{u v:LvQ},WDs w a u->WDs w b v->WDs w (a++b) (u++v)
 |[],b,u,v,h,h2=>by grind[WDs]
 | x::a,b,u,v,h,h2=>by
  simp only[WDs]at h;obtain⟨y,u,rfl,h0,h1⟩:=h;exact⟨y,u++v,rfl,h0,h1.append h2⟩
theorem WDs.len:∀{a:LdQ}{u:LvQ},WDs w a u->a.length=u.length
 |[],u,h=>by grind[WDs]
 | x::a,u,h=>by
  simp only[WDs]at h;obtain⟨y,u,rfl,_,h1⟩:=h;simp[h1.len]
theorem vk{α:Type}(C:Nat->List α)(n:Nat):∀m,(∀i,i<m->(C i).length=n)->((List.range m).flatMap C).length=m*n∧∀i j,i<m->j<n->((List.range m).flatMap C)[i*n+j]?=(C i)[j]?
 |0,_=>⟨af,fun i j hi=>by omega⟩
 | m+1,h=>by
  obtain⟨h1,h2⟩:=vk C n m fun i hi=>h i aa
  have e:(List.range (m+1)).flatMap C=(List.range m).flatMap C++C m:=by simp[Y3]
  rw[e];refine⟨by rw[Zm,h1,h m aa,X5],fun i j hi hj=>?_⟩;by_cases him:i<m
  .rw[List.getElem?_append_left,h2 i j him hj];rw[h1]
   calc i*n+j<i*n+n:=aa
    _=(i+1)*n:=by rw[X5]
    _<=m*n:=Zz n him
  .obtain rfl:i=m:=aa
   simp_all
theorem Bc(C:Nat->LvQ)(X:Nat->LdQ):∀m,(∀i,i<m->WDs w (X i) (C i))->WDs w ((List.range m).flatMap X) ((List.range m).flatMap C)
 |0,_=>rfl
 | m+1,h=>by
  simp only[Y3,List.flatMap_append,Xn,List.flatMap_nil,Y8];exact(Bc C X m fun i hi=>h i aa).append (h m aa)
theorem QY{a:Addr}{len cap:Nat}(hn:0<n)(hl:len<=cap)(hlen:vs.length=cap*n)(h:∀i v,vs[i]?=some v->w.cell? (a.add i)=some v)(hd:WDs w ds (vs.take (len*n)))(hds:ds.length=len*n):WD w (.sl len ds) (.slice (some a) len cap):=by
 simp only[WD];by_cases h0:cap=0
 .have e:len=0:=aa
  simp_all
 .have hpos:0<vs.length:=by rw[hlen];exact Yx aa hn
  have hle2:len*n<=vs.length:=by rw[hlen];exact Zz n hl
  obtain⟨cs,e,fz,hc,hs,hle,hvs⟩:=Ib h hpos;refine .inr ⟨a.block,a.off,cap,n,cs,e,fz,?_,hl,hn,hds,hc,aa,?_⟩
  .cases a;grind
  grind
def Opn(enc:TypeId×Value->HH)(P:Program)(w:World)(base:Nat)(held:Bool)(s:Sh):Prop:=
 ∀(t:TypeId)(fuel:Nat)(cs:LvQ)(x:DataW HH×List MemPlace),Typ P s t->DataW.trod enc P w base (fun _=>true) held fuel t cs=some x->cs.length=P.cellsOf t∧∃ds,Dat s ds∧WDs w ds cs
theorem JM[Inhabited α]{p:Nat->α->Prop}(h:∀i,i<m->∃x,p i x):∃f:Nat->α,∀i,i<m->p i (f i):=
 ⟨fun i=>if hi:i<m then Classical.choose (h i hi)else default,fun i hi=>by
  grind⟩
theorem adS(ih:Opn enc P w base held s):Opn enc P w base held (.sl s):=by
 intro t fuel cs x ht h;simp only[Typ]at ht;obtain⟨u,hu,hc1,hcu,hs⟩:=ht;rcases Deep.open_slice hu h with⟨rfl,_⟩|⟨a,len,cap,m,n,Dd,Pl,rfl,_,hlc,_,hm,_,hx⟩
 .exact⟨by grind,[.sl 0 []],⟨[],rfl,fun x hx=>by cases hx⟩,_,_,rfl,.inl ⟨rfl,rfl,.inl rfl⟩,rfl⟩
 .simp only[if_true]at hm;subst hm;obtain⟨C,hC⟩:=JM (α:=LvQ) hx
  obtain ⟨E,hE⟩:=JM (α:=LdQ) (p:=fun i e=>Dat s e∧WDs w e (C i)) (m:=m) fun i hi=>by
   obtain⟨_,ds,h1,h2⟩:=ih _ _ _ _ hs (hC i hi).2
   grind
  have hCl:∀i,i<m->(C i).length=P.cellsOf u:=fun i hi=>(World.cells?_some (hC i hi).1).2.1
  obtain⟨hl1,hl2⟩:=vk C (P.cellsOf u) m hCl;have hEl:∀i,i<m->(E i).length=P.cellsOf u:=fun i hi=>by rw[(hE i hi).2.len,hCl i hi]
  refine⟨by grind,[.sl ((List.range len).map E).length ((List.range len).map E).flatten],⟨_,rfl,fun x hx=>?_⟩,_,_,rfl,?_,rfl⟩
  .simp only[Zc,X6]at hx;obtain⟨i,hi,rfl⟩:=hx;exact(hE i aa).1
  .rw[List.length_map,Y0,<-List.flatMap_def];refine QY (vs:=(List.range m).flatMap C) hcu hlc hl1 (fun i v hv=>?_) ?_ (vk E (P.cellsOf u) len fun i hi=>hEl i aa).1
   .have hi:=(List.getElem?_eq_some_iff.1 hv).1;rw[hl1]at hi;have hdm:=Yf i (P.cellsOf u);have hmod:=Y7 i hcu;have hdiv:i/P.cellsOf u<m:=Wl (by grind);have e:i=i/P.cellsOf u*P.cellsOf u+i%P.cellsOf u:=by rw[Zt];exact hdm.symm
    have:=(World.cells?_some (hC _ hdiv).1).2.2 (i%P.cellsOf u) hmod
    grind[Addr.add_add]
   ·have e:((List.range m).flatMap C).take (len*P.cellsOf u)=(List.range len).flatMap C:=by
     have e1:List.range m=List.range len++(List.range (m-len)).map (len + ·):=by
      conv=>lhs;rw[show m=len+(m-len) by omega,List.range_add]
     rw[e1,List.flatMap_append,Xy];exact(vk C (P.cellsOf u) len fun i hi=>hCl i aa).1
    rw[e];exact Bc C E len fun i hi=>(hE i aa).2
theorem adT(ih:Opn enc P w base held s):Opn enc P w base held (.ar n s):=by
 intro t fuel cs x ht h;simp only[Typ]at ht;obtain⟨u,hu,hct,hs⟩:=ht;obtain⟨xs,m,_,_,hl,hxl,hx⟩:=DataW.trod_array hu h
 let C:Nat->LvQ:=fun i=>(cs.drop (i*P.cellsOf u)).take (P.cellsOf u)
 obtain ⟨E,hE⟩:=JM (α:=LdQ) (p:=fun i e=>Dat s e∧WDs w e (C i)) (m:=n) fun i hi=>by
  have:=hx i hi;rw[List.getElem?_eq_getElem aa]at this;obtain⟨_,ds,h1,h2⟩:=ih _ _ _ _ hs this
  grind
 refine⟨hl,((List.range n).map E).flatten,⟨_,rfl,af,fun x hx=>?_⟩,?_⟩
 .grind
 .rw[<-List.flatMap_def]
  have e:∀m,m<=n->cs.take (m*P.cellsOf u)=(List.range m).flatMap C:=by
   intro m
   induction m with
   |zero=>simp
   | succ m ihm=>
    intro hm;rw[X5,List.take_add,ihm aa];simp[Y3,C]
  have:=e n (Z7 _);rw[Z6 aa]at this
  grind[Bc]
mutual
theorem opn:∀s:Sh,Opn enc P w base held s
 | .int k=>by
  intro t fuel cs x ht h;simp only[Typ]at ht;obtain⟨n,rfl,_,hw⟩:=DataW.trod_int ht.1 h;exact⟨by grind,[.int k n],⟨n,rfl,hw⟩,_,_,rfl,rfl,rfl⟩
 | .bool=>by
  intro t fuel cs x ht h;simp only[Typ]at ht;obtain⟨b,rfl,_⟩:=DataW.trod_bool ht.1 h;exact⟨by grind,[.bool b],⟨b,rfl⟩,_,_,rfl,rfl,rfl⟩
 | .str=>by
  intro t fuel cs x ht h;simp only[Typ]at ht;obtain⟨s,rfl,_,hs⟩:=DataW.trod_string ht.1 h;exact⟨by grind,[.str s.data.toList],⟨_,rfl,by trivial⟩,_,_,rfl,rfl,rfl⟩
 |.sl e=>adS (opn e)
 |.ar n e=>adT (opn e)
 | .st ss=>by
  intro t fuel cs x ht h;simp only[Typ]at ht;obtain⟨l,hu,hl⟩:=ht;obtain⟨xs,m,_,_,hcl,hxl,hx⟩:=DataW.trod_struct hu h;refine⟨hcl,?_⟩
  have:=afH ss (l:=l) (o:=0) (n:=P.cellsOf t) (fuel:=m) (cs:=cs) hl hcl fun f hf=>by
   obtain⟨i,hi⟩:=List.getElem?_of_mem hf;have h1:=hx i f (by grind)
   grind
  trivial
theorem afH:∀(ss:List Sh){l:List Field}{o n fuel:Nat}{cs:LvQ},SF P ss l o n->cs.length=n ->
  (∀f∈l,∃x,DataW.trod enc P w base (fun _=>true) held fuel f.type ((cs.drop f.offset).take (P.cellsOf f.type))=some x)->∃ds,aeO ss ds∧WDs w ds (cs.drop o)
 | [],l,o,n,fuel,cs,ht,hl,h=>by
  simp only[SF]at ht;refine⟨[],rfl,?_⟩;rw[Zb aa];rfl
 | s::ss,l,o,n,fuel,cs,ht,hl,h=>by
  simp only[SF]at ht;obtain⟨f,r,rfl,rfl,h1,h2⟩:=ht;obtain⟨x,hx⟩:=h f af;obtain⟨_,a,ha,wa⟩:=opn s _ _ _ _ h1 hx;obtain⟨b,hb,wb⟩:=afH ss h2 hl fun g hg=>h g (by grind)
  refine⟨a++b,⟨a,b,rfl,ha,hb⟩,?_⟩
  have e:cs.drop f.offset=(cs.drop f.offset).take (P.cellsOf f.type)++cs.drop (f.offset+P.cellsOf f.type):=by
   rw[<-List.drop_drop,Yi]
  grind[WDs.append]
end
inductive Ar where
 |one (x:D)
 |many (xs:LdQ)
def Ar.v:Ar->V
 |.one x=>.d x
 |.many xs=>.agg (xs.map .d)
def WA(w:World):Ar->Value->Prop
 |.one x,v=>WD w x v
 |.many xs,v=>∃ws,v=.agg ⟨ws⟩∧WDs w xs ws
def WAs(w:World):List Ar->LvQ->Prop
 |[],l=>l=[]
 |x::xs,l=>∃v vs,l=v::vs∧WA w x v∧WAs w xs vs
theorem TI{F1:Nat->Prop}{H1:AH}(φ0:LnQ)(h0:Hp):∀(ds:LdQ)(us:LvQ),RDs F1 H1 ds us->RVs φ0 F1 H1 h0 (ds.map .d) us
 |[],us,h=>by trivial
 | d::ds,us,h=>by
  simp only[RDs]at h;obtain⟨u,us,rfl,h1,h2⟩:=h;exact⟨u,us,rfl,h1,TI φ0 h0 ds us h2⟩
def RAs(F:Nat->Prop)(H:AH)(rs:List Ar)(us:LvQ):Prop:=∀φ0 h0,RVs φ0 F H h0 (rs.map Ar.v) us
theorem ad8:∀(rs:List Ar)(vs:LvQ){φ:bG}{F:Nat->Prop}{H:AH},Ly w φ F H->WAs w rs vs ->
  ∃φ' F' H' us,Ly w φ' F' H'∧uS φ F H φ' F' H'∧am φ' us vs∧RAs F' H' rs us
 |[],vs,φ,F,H,L,h=>⟨φ,F,H,[],L,uS.refl ..,by trivial,fun _ _=>rfl⟩
 | .one x::rs,vs,φ,F,H,L,h=>by
  simp only[WAs,WA]at h;obtain⟨v,vs,rfl,h1,h2⟩:=h;obtain⟨φ1,F1,H1,u,L1,E1,r1,d1⟩:=lay x v L h1;obtain⟨φ2,F2,H2,us,L2,E2,r2,d2⟩:=ad8 rs vs L1 h2;exact⟨φ2,F2,H2,u::us,L2,E1.trans E2,⟨v,vs,rfl,av.mono E2.le u v r1,r2⟩,fun φ0 h0=>⟨u,us,rfl,RD.mono (E2.leF L1) _ _ d1,d2 φ0 h0⟩⟩
 | .many xs::rs,vs,φ,F,H,L,h=>by
  simp only[WAs,WA]at h;obtain⟨v,vs,rfl,⟨ws,rfl,h1⟩,h2⟩:=h;obtain⟨φ1,F1,H1,us1,L1,E1,r1,d1⟩:=lays xs ws L h1;obtain⟨φ2,F2,H2,us,L2,E2,r2,d2⟩:=ad8 rs vs L1 h2;exact⟨φ2,F2,H2,.agg ⟨us1⟩::us,L2,E1.trans E2,⟨_,vs,rfl,⟨ws,rfl,am.mono E2.le _ _ r1⟩,r2⟩,fun φ0 h0=>⟨_,us,rfl,⟨us1,rfl,TI φ0 h0 _ _ (RDs.mono (E2.leF L1) _ _ d1)⟩,d2 φ0 h0⟩⟩
theorem JP{f:FuncId}{rs:List Ar}{b:Bool}{w:World}(hc:CP Y f (rs.map Ar.v) (.d (.bool b)))(hw:WAs w rs vs)(hp:QU w)(h0:∀u,Y.X.orc f u=none:=by exact fun _=>rfl):
  Calls X.P f vs.toArray w fun e w'=>e=.returned (.bool b)∧w'.os=w.os∧w'.output=w.output∧w.heap.size<=w'.heap.size∧∀c,c<w.heap.size->w'.heap[c]?=w.heap[c]?:=by
 obtain⟨φ,F,H,L,g⟩:=start hp;obtain⟨φ1,F1,H1,us,L1,E1,r1,d1⟩:=ad8 rs vs L hw;obtain⟨n,wv,H2,F2,hcall,hn,_,_,_,_,_,_,_,hr⟩:=agE vOk hc F1 H1 us L1.wf L1.fr (g.mono (E1.leF L)) d1
 have hv:wv=.bool b:=by
  have:=hr [] [];simpa only[RV,RD]using this
 subst hv;refine(MR adV hcall L1.rel (args':=vs.toArray) r1 h0).mono ?_;rintro e w' ⟨φ',v',rfl,h1,h2,h3,h4⟩;have hv':v'=.bool b:=(av.of_plain (.bool b) rfl v').1 h1;subst hv';refine⟨rfl,h3.os,h3.out,h3.size,fun c hc=>h3.frame c hc ?_⟩;rintro⟨b',p,x,_,_,hx,_,hwr⟩
 grind[Ly.ro]
theorem vf{v:Value}{x:DataW HH×List MemPlace}(ht:Typ P s t)(hc:P.cellsOf t=1)(h:DataW.trod enc P w base (fun _=>true) held fuel t v.cells.toList=some x)(hv:∀cs,v≠.agg cs):
  ∃d,Dat s [d]∧WA w (.one d) v:=by
 obtain⟨hl,ds,h1,h2⟩:=opn s _ _ _ _ ht h
 have hcl:v.cells.toList=[v]:=by
  cases v<;>first|rfl|grind
 rw[hcl]at h2;have:=h2.len;obtain⟨d,rfl⟩:∃d,ds=[d]:=Xl.1 this;simp only[WDs]at h2;obtain⟨v',vs',e,h2,_⟩:=h2;simp only[List.cons.injEq]at e;obtain⟨rfl,_⟩:=e;exact⟨d,h1,h2⟩
theorem ZH{v:Value}{x:DataW HH×List MemPlace}(ht:Typ P s t)(h:DataW.trod enc P w base (fun _=>true) held fuel t v.cells.toList=some x)(hv:∃cs,v=.agg cs):
  ∃ds,Dat s ds∧WA w (.many ds) v:=by obtain⟨hl,ds,h1,h2⟩:=opn s _ _ _ _ ht h;obtain⟨cs,rfl⟩:=hv;exact⟨ds,h1,cs.toList,rfl,h2⟩
theorem NA{P:Program}{W:World}{base:Nat}{fs:Array Field}{v:Value}(ht:P.underlying t=some (.struct fs))(h:Value.okWide P W .any base t v):∃cs,v=.agg cs:=by grind[Value.okWide]
def QV(W W':World):Prop:=W'.os=W.os∧W'.output=W.output∧W.heap.size<=W'.heap.size∧∀c,c<W.heap.size->W'.heap[c]?=W.heap[c]?
variable{H:Type}{enc:TypeId×Value->H}{P:Program}
theorem QV.but{W W':World}(h:QV W W')(may:MemPlace->Prop):W.keptBut W' may:=by
 refine⟨h.1,h.2.1,fun i hi=>?_⟩;rw[h.2.2.2 i hi];cases hq:W.heap[i]? with
 |none=>simp
 |some o=>cases o<;>simp
theorem Rv{f:Func}{s:ChangeSpec}{apart fresh handsOn again:Bool}{W W':World}{args:Array Value}{v:Value}{ds gs:List (DataW H)}{before pa pv:List MemPlace}
  (hW:DataW.Whole enc P f.params.toList s.vars apart W args.toList ds gs before)
  (hres:∀(b:Nat)(sp:Nat->Bool)(hd:Bool),DataW.TrodAll enc P W' b sp hd f.resultTypes.toList (v.resultList f.resultTypes.size) (s.fn H (ds++gs)).results [])
  (hargs:∀sp:Nat->Bool,(∀p∈before,sp p.block=true)->DataW.TrodAll enc P W' 0 sp true f.params.toList args.toList (s.fn H (ds++gs)).args pa)
  (hvars:∀sp:Nat->Bool,(∀p∈before,sp p.block=true)->DataW.TrodVars enc P W' sp s.vars (s.fn H (ds++gs)).vars pv)
  (hps:before=pa++pv) (hk:QV W W')
  (hok:∀(j:Nat)(t:TypeId)(r:Value),f.resultTypes[j]?=some t->(v.resultList f.resultTypes.size)[j]?=some r->Value.okWide P W' .any 0 t r) :
  s.post enc P f apart fresh handsOn again W args v W':=by
 have hold:∀p∈before,(fun b=>decide (b<W.heap.size)) p.block=true:=fun p hp=>by simpa using hW.lt p hp
 have hlt:=hW.lt;refine⟨ds,gs,before,[],pa,pv,hW,hres _ _ _,hargs _ hold,hvars _ hold,World.keptBut_mono (fun p hp=>⟨hp,?_⟩) (hk.but (· ∈ before)),fun _=>?_⟩
 .rw[hps,W4]at hp;exact Or.inr hp
 .obtain⟨_,_,_,_,_,hz,hn⟩:=hW;refine⟨hok,_,_,([]++pa)++pv,⟨[]++pa,pv,trodAll_append (hargs _ (fun _ _=>rfl)) (hres _ _ _),hvars _ (fun _ _=>rfl),rfl,?_,?_⟩,?_⟩
  .intro b off hp;have hp':MemPlace.cell b off∈before:=by rw[hps];simpa using hp
   have hb:b<W.heap.size:=hlt _ hp';have:=hz b off hp';simp only[World.frozen?]at this ⊢;rw[hk.2.2.2 b hb];exact this
  .intro ha;have:=hn ha;rw[hps]at this;simpa using this
  .intro p hp _;rw[hps];simpa using hp
theorem zD(hl:laidOutB P=true){W W':World}(hk:QV W W'){sp:Nat->Bool}:∀{ts:List TypeId}{vs:LvQ}{ds:List (DataW H)}{ps:List MemPlace},(∀t∈ts,P.readableRec t=true∧t<P.types.size) ->
  DataW.TrodAll enc P W 0 (fun _=>true) true ts vs ds ps->(∀p∈ps,p.block<W.heap.size)->(∀p∈ps,sp p.block=true)->DataW.TrodAll enc P W' 0 sp true ts vs ds ps
 | [],vs,ds,ps,_,h,_,_=>by
  obtain⟨rfl,rfl,rfl⟩:=trodAll_nil h;exact trodAll_mk0
 | t::ts,vs,ds,ps,hr,h,hlt,hsp=>by
  obtain⟨v,vs',d,ds',p,q,rfl,rfl,rfl,h1,h2⟩:=trodAll_cons h;refine trodAll_cons_mk (WideElems.Trod_stays hl (hr t af).1 (hr t af).2 h1 (fun x hx=>?_) fun x hx=>hsp x (by simp[hx])) (zD hl hk (fun u hu=>hr u (by simp[hu])) h2 (fun x hx=>hlt x (by simp[hx])) fun x hx=>hsp x (by simp[hx]));have hb:=hlt x (by simp[hx]);cases x with
  | cell b off=>
   simp only[World.sameAt,World.cell?];rw[hk.2.2.2 b hb]
  |map b=>exact hk.2.2.2 b hb
theorem E6{P:Program}{w:World}:∀{l:List (String×DataW Unit)}{ps:List MemPlace},DataW.LaidVars P w l ps->∀n d,(n,d)∈l ->
  ∃g t cs fuel p,P.globalNamed n=some g∧(P.globals[g]?).map (·.type)=some t∧w.var? P n=some cs∧DataW.trod (fun _=>()) P w 0 (fun _=>true) false fuel t cs.toList=some (d,p)
 |[],_,_,_,_,hm=>by cases hm
 | (n',d')::r,ps,h,n,d,hm=>by
  obtain⟨g,t,cs,fuel,p,q,h1,h2,h3,h4,h5,_⟩:=h;rcases Zo.1 hm with e|e
  .cases e;exact⟨g,t,cs,fuel,p,h1,h2,h3,h4⟩
  .exact E6 h5 n d e
def adO:LiQ:=[1,10,100,1000,10000,100000,1000000,10000000,100000000,1000000000,10000000000,100000000000,1000000000000,10000000000000,100000000000000,1000000000000000,10000000000000000,100000000000000000,1000000000000000000,10000000000000000000]
theorem adM{P:Program}{W:World}{name:String}{t e:TypeId}(hg:P.globalNamed name=some od)(hty:(P.globals[od]?).map (·.type)=some t)(ht:P.underlying t=some (.array 20 e))(he:P.underlying e=some (.int .u64))(hce:P.cellsOf e=1)(hct:P.cellsOf t=20)
  {l:List (String×DataW Unit)} (hm:(name,Lib.tabData .u64 adO)∈l) (h:laidMet P l W):QU W:=by
 obtain⟨ps,hv,_⟩:=h;obtain⟨g',t',cs,fuel,p,hg',ht',hvar,hd⟩:=E6 hv _ _ hm;obtain rfl:=Option.some.inj (hg.symm.trans hg');obtain rfl:=Option.some.inj (hty.symm.trans ht')
 have tab:Lib.TabIs P W name .u64 adO:=by
  unfold Lib.TabIs;rw[hvar,<-Lib.cells_of_tab ht he hce hct hd]
 have hpv:∀i v,BA[i]?=some v->W.cell? ((⟨od,0,none⟩:Addr).add i)=some v:=by
  intro i v hv;have hi:i<20:=(List.getElem?_eq_some_iff.1 hv).1;rw[addr_add _ rfl];have h1:=tab.cell hg i hi;simp only[Zp];rw[h1];have h2:BA=adO.map fun z=>Value.int .u64 z:=rfl
  rw[h2,List.getElem?_map,Z3]at hv;obtain⟨z,hz,rfl⟩:=hv;simp[hz]
 obtain⟨cs,e,fz,h1,_,h2,h3⟩:=Ib (w:=W) (a:=⟨od,0,none⟩) (vs:=BA) hpv ae;exact⟨cs,e,fz,h1,by simpa[BA]using h2,by simpa[BA]using h3⟩
open Go.Proofs Go.Proofs.YtblmpbfchgnclabGreatDoor
theorem aij:Tryz.prog.globalNamed "internal/strconv.uint64pow10" = some od:=by kernel_rfl
theorem VS:(Tryz.prog.globals[od]?).map (·.type)=some 241:=ah
theorem ado:Tryz.prog.underlying 241=some (.array 20 174):=ah
theorem adn:Tryz.prog.underlying 174=some (.int .u64):=ah
theorem XJ:Tryz.prog.cellsOf 174=1:=ah
theorem XM:Tryz.prog.cellsOf 241=20:=ah
mutual
/-- Has a type a shape? -/
def Gb(P:Program):Sh->TypeId->Bool
 | .int k,t=>(match P.underlying t with
  |some (.int k')=>decide (k'=k)
  |_=>false)&&Nat.beq (P.cellsOf t) 1
 | .bool,t=>(match P.underlying t with
  |some .bool=>true
  |_=>false)&&Nat.beq (P.cellsOf t) 1
 | .str,t=>(match P.underlying t with
  |some .string=>true
  |_=>false)&&Nat.beq (P.cellsOf t) 1
 | .sl e,t=>(match P.underlying t with
  |some (.slice u)=>Nat.beq (P.cellsOf t) 1&&Nat.blt 0 (P.cellsOf u)&&Gb P e u
  |_=>false)
 | .ar n e,t=>(match P.underlying t with
  |some (.array m u)=>Nat.beq m n&&Nat.beq (P.cellsOf t) (n*P.cellsOf u)&&Gb P e u
  |_=>false)
 | .st fs,t=>(match P.underlying t with
  |some (.struct l)=>G4 P fs l.toList 0 (P.cellsOf t)
  |_=>false)
def G4(P:Program):List Sh->List Field->Nat->Nat->Bool
 |[],l,o,n=>l.isEmpty&&Nat.beq o n
 | s::ss,l,o,n=>(match l with
  |[]=>false
  |f::r=>Nat.beq f.offset o&&Gb P s f.type&&G4 P ss r (o+P.cellsOf f.type) n)
end
mutual
theorem Iz{P:Program}:∀{s:Sh}{t:TypeId},Gb P s t=true->Typ P s t
 | .int k,t,h=>by
  simp only[Gb,Z8]at h;obtain⟨h1,h2⟩:=h;split at h1
  .rename_i h3;obtain rfl:=of_decide_eq_true h1;exact⟨h3,Zl h2⟩
  .cases h1
 | .bool,t,h=>by
  simp only[Gb,Z8]at h;obtain⟨h1,h2⟩:=h;split at h1
  .rename_i h3;exact⟨h3,Zl h2⟩
  .cases h1
 | .str,t,h=>by
  simp only[Gb,Z8]at h;obtain⟨h1,h2⟩:=h;split at h1
  .rename_i h3;exact⟨h3,Zl h2⟩
  .cases h1
 | .sl e,t,h=>by
  simp only[Gb]at h;split at h
  .rename_i u h3;simp only[Z8]at h;obtain⟨⟨h1,h2⟩,h4⟩:=h;exact⟨u,h3,Zl h1,by have:=h2;simp[Nat.blt]at this;omega,Iz h4⟩
  .cases h
 | .ar n e,t,h=>by
  simp only[Gb]at h;split at h
  .rename_i m u h3;simp only[Z8]at h;obtain⟨⟨h1,h2⟩,h4⟩:=h;obtain rfl:=Zl h1;exact⟨u,h3,Zl h2,Iz h4⟩
  .cases h
 | .st fs,t,h=>by
  simp only[Gb]at h;split at h
  .rename_i l h3;exact⟨l.toList,by rw[h3],O6 h⟩
  .cases h
theorem O6{P:Program}:∀{ss:List Sh}{l:List Field}{o n:Nat},G4 P ss l o n=true->SF P ss l o n
 | [],l,o,n,h=>by
  simp only[G4,Z8,List.isEmpty_iff]at h;exact⟨h.1,Zl h.2⟩
 |s::ss,[],o,n,h=>by simp[G4]at h
 | s::ss,f::r,o,n,h=>by
  simp only[G4,Z8]at h;obtain⟨⟨h1,h2⟩,h3⟩:=h;exact⟨f,r,rfl,Zl h1,Iz h2,O6 h3⟩
end
theorem qI{P:Program}{W:World}{base:Nat}{v:Value}(ht:P.underlying t=some (.int k))(h:Value.okWide P W .any base t v):∀cs,v≠.agg cs:=by rintro cs rfl;simp only[Value.okWide,ht,Cell.okWide,Cell.ok]at h
def adD:Sh:=.st [.int .u8,.ar 5 (.int .u8),.ar 5 (.ar 3 (.ar 3 (.int .i8))),.ar 4 (.ar 2 (.ar 2 (.int .u8))),.int .u8]
def Tv:Sh:=.st [adD,.ar 5 (.int .u8),.ar 5 (.ar 3 (.ar 3 (.int .i8))),.st [.int .i8,.int .u8]]
def Flt(k:IntKind)(n:Nat)(ds:LdQ):Prop:=ds.length=n∧∀d∈ds,∃z,d=.int k z∧(Lit.int k z).wf=true
theorem rP(h:Dat (.int k) ds):Flt k 1 ds:=by obtain⟨n,rfl,hw⟩:=h;exact⟨rfl,fun d hd=>⟨n,by simpa using hd,hw⟩⟩
theorem Mj{k:IntKind}{m:Nat}:∀xs:List LdQ,(∀x∈xs,Flt k m x)->Flt k (xs.length*m) xs.flatten
 |[],_=>⟨af,fun d hd=>by simp at hd⟩
 | x::xs,h=>by
  obtain⟨a1,a2⟩:=h x af;obtain⟨b1,b2⟩:=Mj xs fun y hy=>h y (by simp[hy])
  refine⟨by rw[List.flatten_cons,Zm,a1,b1,List.length_cons,X5];omega,fun d hd=>?_⟩;rw[List.flatten_cons]at hd;rcases W4.1 hd with hd|hd
  .exact a2 d hd
  .exact b2 d hd
theorem tu(he:∀ds,Dat e ds->Flt k m ds)(h:Dat (.ar n e) ds):Flt k (n*m) ds:=by obtain⟨xs,rfl,hl,hx⟩:=h;rw[<-hl];exact Mj xs fun x hm=>he x (hx x hm)
def Kdn(o:Nat)(ds:LdQ):Prop:=∀j,j<ds.length->∃z,ds[j]?=some (.int (CV (o+j)) z)∧(Lit.int (CV (o+j)) z).wf=true
theorem vu(h:Flt k n ds)(hk:∀j<n,CV (o+j)=k):Kdn o ds:=fun j hj=>by
 obtain⟨z,e,hw⟩:=h.2 ds[j] (Wj hj);rw[hk j (by have:=h.1;omega)];exact⟨z,by rw[List.getElem?_eq_getElem hj,e],hw⟩
theorem pE{a b:LdQ}(ha:Kdn o a)(hl:a.length=n)(hb:Kdn (o+n) b):Kdn o (a++b):=fun j hj=>by
 rw[Zm]at hj;by_cases h:j<a.length
 .obtain⟨z,e,hw⟩:=ha j h;exact⟨z,by rw[List.getElem?_append_left h,e],hw⟩
 .obtain⟨z,e,hw⟩:=hb (j-a.length) aa;rw[show o+n+(j-a.length)=o+j by omega]at e hw;exact⟨z,by rw[List.getElem?_append_right aa,e],hw⟩
def ivD:D->Int
 |.int _ z=>z
 |_=>0
theorem wf_u8{n:Int}(h:(Lit.int .u8 n).wf=true):0<=n∧n<=255:=by simp only[Lit.wf,Z8,decide_eq_true_eq]at h;exact h
theorem wf_i8{n:Int}(h:(Lit.int .i8 n).wf=true): -128<=n∧n<=127:=by simp only[Lit.wf,Z8,decide_eq_true_eq]at h;exact h
theorem wf_i64{n:Int}(h:(Lit.int .i64 n).wf=true): -9223372036854775808<=n∧n<=9223372036854775807:=by simp only[Lit.wf,Z8,decide_eq_true_eq]at h;exact h
theorem WU(h:Dat Tv ds):∃f:Nat->Int,GW f∧ds.map V.d=plC f:=by
 obtain⟨a,b,rfl,h1,h2⟩:=h;obtain⟨a1,b1,rfl,q1,r1⟩:=h1;obtain⟨a2,b2,rfl,q2,r2⟩:=r1;obtain⟨a3,b3,rfl,q3,r3⟩:=r2;obtain⟨a4,b4,rfl,q4,r4⟩:=r3;obtain⟨a5,b5,rfl,q5,rfl⟩:=r4;obtain⟨a6,b6,rfl,q6,r6⟩:=h2;obtain⟨a7,b7,rfl,q7,r7⟩:=r6;obtain⟨a8,b8,rfl,q8,rfl⟩:=r7;obtain⟨a9,b9,rfl,q9,r9⟩:=q8;obtain⟨a0,b0,rfl,q0,rfl⟩:=r9;have f1:=rP q1;have f2:Flt .u8 (5*1) a2:=tu (fun _ h=>rP h) q2
 have f3:Flt .i8 (5*(3*(3*1))) a3:=tu (fun _ h=>tu (fun _ h=>tu (fun _ h=>rP h) h) h) q3;have f4:Flt .u8 (4*(2*(2*1))) a4:=tu (fun _ h=>tu (fun _ h=>tu (fun _ h=>rP h) h) h) q4;have f5:=rP q5;have f6:Flt .u8 (5*1) a6:=tu (fun _ h=>rP h) q6
 have f7:Flt .i8 (5*(3*(3*1))) a7:=tu (fun _ h=>tu (fun _ h=>tu (fun _ h=>rP h) h) h) q7;have f9:=rP q9;have f0:=rP q0
 have K:Kdn 0 ((a1++(a2++(a3++(a4++(a5++[])))))++(a6++(a7++((a9++(a0++[]))++[])))):=by
  refine pE (n:=68) (pE (vu f1 fun j hj=>tG aa) f1.1 (pE (vu f2 fun j hj=>tG aa) f2.1 (pE (vu f3 fun j hj=>xo aa) f3.1 (pE (vu f4 fun j hj=>tG aa) f4.1 (pE (vu f5 fun j hj=>tG aa) f5.1 fun j hj=>by simp at hj))))) ?_
   (pE (vu f6 fun j hj=>tG aa) f6.1 (pE (vu f7 fun j hj=>xo aa) f7.1 (pE (n:=2) (pE (vu f9 fun j hj=>xo aa) f9.1 (pE (vu f0 fun j hj=>tG aa) f0.1 fun j hj=>by simp at hj)) ?_ fun j hj=>by simp at hj)))
  .simp only[Zm,f1.1,f2.1,f3.1,f4.1,f5.1,List.length_nil]
  .simp only[Zm,f9.1,f0.1,List.length_nil]
 have L:((a1++(a2++(a3++(a4++(a5++[])))))++(a6++(a7++((a9++(a0++[]))++[])))).length=120:=by
  simp only[Zm,f1.1,f2.1,f3.1,f4.1,f5.1,f6.1,f7.1,f9.1,f0.1,List.length_nil]
 generalize(a1++(a2++(a3++(a4++(a5++[])))))++(a6++(a7++((a9++(a0++[]))++[])))=ds at K L
 have key:∀j,j<120->ds[j]?=some (plD (fun j=>ivD (ds.getD j (.bool true))) j)∧(Lit.int (CV j) (ivD (ds.getD j (.bool true)))).wf=true:=fun j hj=>by
  obtain⟨z,e,hw⟩:=K j aa;rw[Zp]at e hw;have ez:ivD (ds.getD j (.bool true))=z:=by rw[Zy,e];rfl
  exact⟨by rw[e];show _=some (D.int (CV j) (ivD (ds.getD j (.bool true))));rw[ez],by rw[ez];exact hw⟩
 refine⟨fun j=>ivD (ds.getD j (.bool true)),⟨fun j hj hk=>?_,fun j hj hk=>?_⟩,?_⟩
 .have:=(key j hj).2;rw[hk]at this;exact wf_u8 this
 .have:=(key j hj).2;rw[hk]at this;exact wf_i8 this
 .apply X8;intro j;by_cases hj:j<120
  .rw[List.getElem?_map,(key j hj).1];unfold plC;rw[Ru _ hj];rfl
  .rw[List.getElem?_eq_none bK,List.getElem?_eq_none (by simp[plC];omega)]
def vn(x:Int):Prop:=-9223372036854775808<=x∧x<=9223372036854775807
theorem rH{d:D}(h:Dat (.int .i64) [d]):∃k:Int,vn k∧d=di k:=by obtain⟨n,e,hw⟩:=h;simp only[List.cons.injEq,and_true]at e;exact⟨n,wf_i64 hw,e⟩
def oV:Sh:=.st [.int .i64,.int .i64]
theorem qU(h:Dat oV ds):∃x y:Int,ds=[di x,di y]∧vn x∧vn y:=by obtain⟨a,b,rfl,⟨n,rfl,hn⟩,a',b',rfl,⟨m,rfl,hm⟩,rfl⟩:=h;exact⟨n,m,rfl,wf_i64 hn,wf_i64 hm⟩
def aib:DataW Unit->Value
 |.lit (.int k n)=>.int k n
 |_=>undef
def adt:DataW Unit->Array Value
 |.agg l=>(l.map aib).toArray
 |_=>#[]
def age:DataW Unit->Value
 |.iface _ (.ptr (.agg [.lit (.string l)]))=>.string ⟨l.toArray⟩
 |_=>undef
def TB(cs:Array Value):Obj->Obj
 |.cells _ t frozen=>.cells cs t frozen
 |o=>o
noncomputable def BL(os:Os):World:=
 let w0:=World.holding Tryz.prog os ⟨#[.cells #[age Rows.laid_strconv_ErrSyntax] 254,.cells #[age Rows.laid_strconv_ErrRange] 254],#[],[]⟩
 let low:=(World.settled Tryz.prog os).heap.size
 {w0 with heap:=((((w0.heap.modify 0 (TB #[.iface 252 (.pointer (some ⟨low,0,none⟩))])).modify 1 (TB #[.iface 252 (.pointer (some ⟨low+1,0,none⟩))])).modify 2 (TB (adt Rows.laid_internal_strconv_uint64pow10))).modify 3 (TB (adt Rows.laid_math_bits_deBruijn32tab))).modify 4 (TB (adt Rows.laid_math_bits_deBruijn64tab))}
end Go.Vm
