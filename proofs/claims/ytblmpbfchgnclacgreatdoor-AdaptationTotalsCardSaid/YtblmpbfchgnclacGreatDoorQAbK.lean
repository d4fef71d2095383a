/- Lemmas. -/
import Derived.Test.YtblmpbfchgnclacGreatDoorQAbC
import Derived.Shelf.Pu.ParseUintPublic10
import Derived.Shelf.Strconv.ParseIntPublic10
import Derived.RangeFuncBox
import Derived.Shelf.Abstract
import Derived.WalkKit
import Derived.OwnWalkIn
import Derived.TacticsInMore
import Derived.LoopIn
set_option linter.unusedVariables false
set_option linter.unusedSimpArgs false
namespace Go.Vm
open Go Go.Am Go.Big
variable{h H h1:Hp}{l r:List Q}{m Bd k i j n:Nat}{α:Type}{f:Nat->Int}{clr:LnQ}
section
variable{a:Ad}
def grD(a:Ad):LdQ:=gD a.p (ia a.w.2 (kG a)) (lK a.w.2 (gO a))
theorem OJ(hu:(h.all fun x=>bW h.length x.2)=true)(hl:0<l.length)(hb:l.length<1000000000):CI Y F.aM [szV l] h (.new 2 ((l.map tx).flatMap aK) false l.length l.length) h:=by
 refine nP ?_;have fl:((l.map tx).flatMap aK).length=l.length*2:=by rw[d6 aK bQ,List.length_map]
 have e:szV l=.d (.sl l.length ((l.map tx).flatMap aK)):=by unfold szV qm;rw[List.length_map]
 rw[e];generalize(l.map tx).flatMap aK=cells at *
 have nl:∀(H:Hp)(k:V->Prop)(u:PU k),rn (rj H .eql (.d (.sl l.length cells)) (.d nPQ)) k u=k (.d (.bool false)):=fun H k u=>by
  obtain⟨m,hm⟩:∃m,l.length=m+1:=⟨l.length-1,aa⟩;rw[hm];rfl
 simp[aM,nl]
 have hli:cO 0 [D.str [],D.str []] [] (h++[(0,Bk.none),(0,Bk.none)])=some ([],h++[(0,Bk.none),(0,Bk.none)]):=by
  simp[cO,jv,iH]
 rw[hli];simp;refine x8 (z:=[]) ae hl aa aa ?_;refine⟨af,?_,.inr (.inr (.inl ⟨h.length+1,1,l.length,l.length,2,cells,false,af,aa,by simp[aw],rfl⟩))⟩;simp only[Yp,hu,Zg]
 try simp[bW]
def tC(p:LiQ)(cs:LLQ):Nat->Nat->LLQ->Nat
 |b,_,[]=>b
 |b,i,c::q=>tC p cs (if wI p c<wI p (nth [] cs b)then i else b) (i+1) q
def rU(p:LiQ)(cs:LLQ):Nat:=tC p cs 0 0 cs
theorem M2{p:LiQ}{cs:LLQ}:∀(q:LLQ)(b i:Nat),b<cs.length->i+q.length<=cs.length->tC p cs b i q<cs.length
 |[],b,i,hb,_=>hb
 | c::q,b,i,hb,hi=>by
  simp only[List.length_cons]at hi;simp only[tC];refine M2 q _ _ ?_ aa
  grind
theorem yc{p:LiQ}{cs:LLQ}(h:0<cs.length):rU p cs<cs.length:=M2 cs 0 0 h aa
def rA(a:Ad):List LLQ:=dQ a.p (kG a) (gO a)
def tB:Acc:=⟨2,0,1,.none⟩
def qS:Acc:=⟨3,0,1,.none⟩
def bsH(a:Ad)(s2 s3:Nat×Bk):Hp:=[adB a,(1,.data 1 (grD a) false true),s2,s3,nnQ]
theorem acY{p:LiQ}{b Bd:Nat}(hp:pcS p)(b0:0<b)(b1:b<1000000)(hB:Bd<1000000000000)(a:Ad)(O St:D)(eg:grD a=gD p O St){cs:LLQ}(hc:okR p Bd cs)(h0:0<cs.length)(hN:cs.length<1000000)(s3:Nat×Bk)(H0:Hp)(hh:H0.length=5)(K:KL) :
  ∀(q d:LLQ)(m:Nat),d++q=cs->m<cs.length ->
  K (.exit 4) [I (tC p cs m d.length q)] (bsH a (tB.b cs.length (cs.map (szE b))) s3) ->
  lp (mj (CX Y) (.ptr 1 1 0 3) (tB.v cs.length (cs.map (szE b))) (I cs.length)) [] H0 [I m,I d.length] (bsH a (tB.b cs.length (cs.map (szE b))) s3) K
 | [],d,m,hd,hm,hK=>by
  have e:d.length=cs.length:=by rw[<-hd];simp
  refine aj ?_;simp[mj,e];exact hK
 | c::q,d,m,hd,hm,hK=>by
  have e1:cs.length=d.length+(q.length+1):=by rw[<-hd];simp
  have rc:=hc c (by grind);have rm:=hc _ (aQ (d:=[]) hm);have hnc:nth [] cs d.length=c:=by rw[<-hd,bM]
  have le:=Mc hp O St b0 b1 rc.1 rm.1 rc.2 rm.2 hB hB;rw[<-eg]at le;obtain⟨n,hn⟩:∃n,cs.length=n+1:=⟨cs.length-1,aa⟩;have hs:(bsH a (tB.b cs.length (cs.map (szE b))) s3)[2]?=some (1,.data 1 (cs.map (szE b)) false false):=by rw[hn];rfl
  have hv:tB.v cs.length (cs.map (szE b))=.ref 2 1 0 cs.length cs.length cs.length:=by
   have:(cs.map (szE b)).length=cs.length:=List.length_map _
   conv=>lhs;rw[hn]
   simp only[Acc.v,tB,this,hn]
  have x1:=ixB (f:=szE b) hs rfl (i:=d.length) aa .i64;have x2:=ldB (f:=szE b) [] hs rfl (i:=d.length) aa;rw[hnc]at x2;have y1:=ixB (f:=szE b) hs rfl (i:=m) hm .i64;have y2:=ldB (f:=szE b) [] hs rfl (i:=m) hm
  have ih:=acY hp b0 b1 hB a O St eg hc h0 hN s3 H0 hh K q (d++[c]) (if wI p c<wI p (nth [] cs m)then d.length else m) (by grind) (by split<;>omega) (by
   have e:(d++[c]).length=d.length+1:=af;rw[e];exact hK)
  have e3:((d++[c]).length:Int)=(d.length:Int)+1:=af;rw[e3]at ih;have sn:aS (bsH a (tB.b cs.length (cs.map (szE b))) s3) [.ptr 1 1 0 3,.d (szE b c),.d (szE b (nth [] cs m))]=some ([.dptr (grD a) 0,.d (szE b c),.d (szE b (nth [] cs m))],bsH a (tB.b cs.length (cs.map (szE b))) s3):=by rfl
  have hre:au [] 0 H0 (bsH a (tB.b cs.length (cs.map (szE b))) s3)=bsH a (tB.b cs.length (cs.map (szE b))) s3:=aX 0 H0 _ (by rw[hh];rfl);rw[hv]at ih ⊢;generalize bsH a (tB.b cs.length (cs.map (szE b))) s3=H at *
  have xe:∀(i:Nat),ixX (fh H 2 1) 1 2 1 0 cs.length cs.length (i:Int)=ixV H 1 (.ref 2 1 0 cs.length cs.length cs.length) (I i):=fun i=>by
   rfl
  have x1':=(xe _).trans x1;have y1':=(xe _).trans y1;have x2':=(mu _ _ _ _ _).symm.trans x2;have y2':=(mu _ _ _ _ _).symm.trans y2;have g:(d.length:Int)<cs.length:=aa;refine aj ?_;simp[mj,g];refine aT ?_;simp[x1,x1',x2,x2',y1,y1',y2,y2'];refine cdz sn le ?_;rw[show ∀x:Bool,fN (B x)=true from fun _=>rfl,if_pos rfl];by_cases gw:wI p c<wI p (nth [] cs m)
  .rw[if_pos gw]at ih;simp[gw];refine aT ?_;simp(disch:=try exact ag)[hre];exact ih
  .rw[if_neg gw]at ih;simp[gw];refine aT ?_;simp(disch:=try exact ag)[hre];exact ih
end
theorem Bt(p:LiQ):∀(m:Nat)(l:List LLQ)(s:List (List LLQ)),m<l.length->l.length<=s.length->nth [] (dQ p l s) m=(dQ p (l.drop m) (s.drop m)).headD []
 | 0,l,s,_,_=>by
  rw[Zj,Zj];cases dQ p l s<;>rfl
 |m+1,[],s,h,_=>by rfl
 |m+1,[o],s,h,_=>by simp at h
 |m+1,o::o2::os,[],_,h=>by simp at h
 | m+1,o::o2::os,ss::sss,h,h2=>by
  have:=Bt p m (o2::os) sss (by grind) (by grind);trivial
section
variable{p:LiQ}{b B:Nat}{owns:List LLQ}{steps:List (List LLQ)}
theorem xA.rest_at(P:xA p b B owns steps)(hm:m<owns.length):(nth [] (dQ p owns steps) m).length=(nth [] owns m).length∧okR p 200000000 (nth [] (dQ p owns steps) m):=by
 have hl:=P.hl;have five:=P.five;have mem:nth [] (dQ p owns steps) m∈dQ p owns steps:=aQ (d:=[]) (by grind[oI]);refine⟨?_,?_⟩
 .rw[Bt p m owns steps hm aa];by_cases h1:m+1<owns.length
  .have e1:owns.drop m=nth [] owns m::nth [] owns (m+1)::owns.drop (m+1+1):=by rw[Z0 hm,aN _ _ _ hm,Z0 h1,aN _ _ _ h1]
   have e2:steps.drop m=nth [] steps m::steps.drop (m+1):=by rw[Z0 aa,aN _ _ _ aa]
   grind[dQ,wZ,hs]
  .have e1:owns.drop m=[nth [] owns m]:=by rw[Z0 hm,aN _ _ _ hm,Xe aa]
   rw[e1];rfl
 .have:=P.rests (owns.length-1) 0 aa;rw[Zj,Zj]at this;exact tb (this _ mem).2.2 (P.le aa)
theorem ZM{x y:LiQ}(hx:x.length=p.length∧bdN Bd x)(hy:y.length=p.length∧bdN Bd y):
  (sN (List.replicate p.length 0) [x,y]).length=p.length∧bdN (Bd+Bd) (sN (List.replicate p.length 0) [x,y]):=by simp only[sN];rw[sL 1 hx.1,Jk];exact⟨by rw[hQ _ aa,hx.1],lE hx.2 hy.2⟩
end
section
variable{a:Ad}
theorem mF(a:Ad):(kG a).length=a.cd.length:=by simp[kG]
theorem uW(a:Ad):(gO a).length=a.cd.length:=by simp[gO]
theorem w9(hk:k<a.cd.length):nth [] (kG a) k=mX a k:=by grind[kG,jH]
theorem G9(hk:k<a.cd.length):nth [] (gO a) k=ko a k:=by grind[gO,jH]
theorem Q7(hi:i<(nth [] a.cd k).length):nth [] (ko a k) i=lV a k i:=by grind[ko,jH]
theorem Q6(hj:j<(nth [] a.cd (k+1)).length):nth [] (lV a k i) j=stW a k i j:=by grind[lV,jH]
theorem PL(G:cI a)(hk:k<a.cd.length):(nth [] (rA a) k).length=(nth [] a.cd k).length∧okR a.p 200000000 (nth [] (rA a) k):=by
 obtain⟨h1,h2⟩:=G.pre.rest_at (m:=k) (by grind[mF])
 grind[rA,w9,mX]
def cst(a:Ad)(k c i:Nat):LiQ:=if k=0 then nth [] (nth [] (rA a) k) i else sN (List.replicate a.p.length 0) [stW a (k-1) c i,nth [] (nth [] (rA a) k) i]
def csC(a:Ad)(k c n:Nat):LdQ:=(List.range n).map fun i=>szE a.w.2 (cst a k c i)
theorem WY(a:Ad)(k c n:Nat):csC a k c (n+1)=csC a k c n++[szE a.w.2 (cst a k c n)]:=by simp[csC,Y3]
theorem aey(G:cI a){c:Nat}(hk:k<a.cd.length)(hc:k=0∨c<(nth [] a.cd (k-1)).length)(hi:i<(nth [] a.cd k).length):(cst a k c i).length=a.p.length∧bdN 400000000 (cst a k c i):=by
 obtain⟨r1,r2⟩:=PL G hk;have hcl:=G.cl;have hlen:=G.wk.len;have rr:=r2 _ (aQ (d:=[]) (show i<(nth [] (rA a) k).length by omega));unfold cst;by_cases h:k=0
 .grind[qV]
 .rw[if_neg h];obtain⟨m,rfl⟩:∃m,k=m+1:=⟨k-1,aa⟩;have:=G.stepW (i:=m) (f:=c) (t:=i) aa (hc.resolve_left h) hi;exact ZM (Bd:=200000000) ⟨this.1,qV this.2 aa⟩ rr
theorem E4(A:Acc)(L:Nat)(c:LdQ):bj (A.v L c)=some (I L):=by cases L<;>rfl
theorem acZ(G:cI a){k c:Nat}(hk:k<a.cd.length)(hc:k=0∨c<(nth [] a.cd (k-1)).length){ch:V}{s3:Nat×Bk}(hch:0<k->∀s2,∃w,ixV (bsH a s2 s3) 1 ch (I ((k:Int)-1))=some w∧ld1 (bsH a s2 s3) w=some (I c))(H0:Hp)(hh:H0.length=5)(K:KL) :
  ∀(m i:Nat),i+m=(nth [] a.cd k).length->K (.exit 2) [ch,tB.v (nth [] a.cd k).length (csC a k c (nth [] a.cd k).length)] (bsH a (tB.b (nth [] a.cd k).length (csC a k c (nth [] a.cd k).length)) s3) ->
  lp (jy (CX Y) (.ptr 1 1 0 3) (I k) (.d (szL a.w.2 (nth [] (rA a) k))) (I (nth [] a.cd k).length)) [] H0 [ch,tB.v i (csC a k c i),I i] (bsH a (tB.b i (csC a k c i)) s3) K
 | 0,i,hi,hK=>by
  have ei:(nth [] a.cd k).length=i:=aa;rw[ei]at hK ⊢;refine aj ?_;simp[jy];exact hK
 | m+1,i,hi,hK=>by
  have h5:=G.five;have hcl:=G.cl;have hlen:=G.wk.len;obtain⟨w1,w2,w3,w4⟩:=G.w0;have hn20:(nth [] a.cd k).length<=20:=(G.cn _ (aQ (d:=[]) hk)).2;obtain⟨r1,r2⟩:=PL G hk;have ih:=acZ G hk hc hch H0 hh K m (i+1) aa hK;rw[WY]at ih
  have i1:∀H:Hp,ixV H 1 (.d (szL a.w.2 (nth [] (rA a) k))) (I i)=some (.dptr ((nth [] (rA a) k).map fun r=>szD (szI a.w.2 r)) i):=fun H=>aJ (fun r=>szD (szI a.w.2 r)) _ H rfl aa
  have i2:∀H:Hp,ld1 H (.dptr ((nth [] (rA a) k).map fun r=>szD (szI a.w.2 r)) i)=some (szV (szI a.w.2 (nth [] (nth [] (rA a) k) i))):=fun H=>aC (fun r=>szD (szI a.w.2 r)) [] _ H aa
  have g:(i:Int)<(nth [] a.cd k).length:=aa;have c1:(csC a k c i).length=i*1:=by simp[csC]
  have li:∀x H,cO 1 [nPQ] [(0,szV (szI a.w.2 x))] H=some ([szE a.w.2 x],H):=fun x H=>by
   rfl
  have hre:∀s,au [] 0 H0 (bsH a s s3)=bsH a s s3:=fun s=>aX 0 H0 _ (by rw[hh];rfl)
  have g2:biI .add (I i) (.d (.int .i64 1))=some (I ((i+1:Nat):Int)):=wE aa
  have fin:∀(q:kkQ)(u:PU q),q (tB.v (i+1) (csC a k c i++[szE a.w.2 (cst a k c i)])) (bsH a (tB.b (i+1) (csC a k c i++[szE a.w.2 (cst a k c i)])) s3)->rh (apV false 2 1 24 (tB.v i (csC a k c i)) (.d (.sl 1 [szE a.w.2 (cst a k c i)])) (bsH a (tB.b i (csC a k c i)) s3)) q u:=fun q u hq=>
   hO tB (L:=i) (k:=1) (cells:=csC a k c i) (cs:=[szE a.w.2 (cst a k c i)]) aa rfl c1 rfl rfl (fun t e=>by cases e) aa ae hq
  obtain⟨s2,hs2⟩:∃s,s=tB.b i (csC a k c i):=⟨_,rfl⟩;obtain⟨v2,hv2⟩:∃s,s=tB.v i (csC a k c i):=⟨_,rfl⟩;rw[<-hs2,<-hv2]at fin ⊢;refine aj ?_;by_cases h0:k=0
  .subst h0;have ec:cst a 0 c i=nth [] (nth [] (rA a) 0) i:=rfl;rw[ec]at fin ih;simp[jy,g,i1,i2];refine aT ?_;simp[li]
   simp_all
  .obtain⟨l,rfl⟩:∃l,k=l+1:=⟨k-1,aa⟩;have hcl':c<(nth [] a.cd l).length:=hc.resolve_left h0;have hl:l<a.cd.length:=aa;have ec:cst a (l+1) c i=sN (List.replicate a.p.length 0) [stW a l c i,nth [] (nth [] (rA a) (l+1)) i]:=rfl;have sw:=G.stepW (i:=l) (f:=c) (t:=i) aa hcl' aa;have rr:=r2 _ (aQ (d:=[]) (show i<(nth [] (rA a) (l+1)).length by omega))
   have ga:=Qs G.hp (ia a.w.2 (kG a)) (lK a.w.2 (gO a)) w1.1 aa (B:=200000000) aa (m:=[stW a l c i,nth [] (nth [] (rA a) (l+1)) i]) (fun d hd=>by
    grind[qV]) af
   rw[<-ec]at ga;obtain⟨w,x1,x2⟩:=hch aa s2;have el:((l+1:Nat):Int)-1=(l:Int):=aa;rw[el]at x1;have f2:ld1 (bsH a s2 s3) (.ptr 1 1 2 3)=some (.d (lK a.w.2 (gO a))):=rfl;have f2':=(mu _ _ _ _ _).symm.trans f2;have j1:∀H:Hp,ixV H 1 (.d (lK a.w.2 (gO a))) (I l)=some (.dptr ((gO a).map (ia a.w.2)) l):=fun H=>aJ (ia a.w.2) _ H rfl (by grind[uW])
   have j2:∀H:Hp,ld1 H (.dptr ((gO a).map (ia a.w.2)) l)=some (.d (ia a.w.2 (ko a l))):=fun H=>by rw[aC (ia a.w.2) [] _ H (by grind[uW]),G9 hl]
   have j3:∀H:Hp,ixV H 1 (.d (ia a.w.2 (ko a l))) (I c)=some (.dptr ((ko a l).map (szL a.w.2)) c):=fun H=>aJ (szL a.w.2) _ H rfl (by grind[ko])
   have j4:∀H:Hp,ld1 H (.dptr ((ko a l).map (szL a.w.2)) c)=some (.d (szL a.w.2 (lV a l c))):=fun H=>by rw[aC (szL a.w.2) [] _ H (by grind[ko]),Q7 hcl']
   have j5:∀H:Hp,ixV H 1 (.d (szL a.w.2 (lV a l c))) (I i)=some (.dptr ((lV a l c).map fun r=>szD (szI a.w.2 r)) i):=fun H=>aJ (fun r=>szD (szI a.w.2 r)) _ H rfl (by grind[lV])
   have j6:∀H:Hp,ld1 H (.dptr ((lV a l c).map fun r=>szD (szI a.w.2 r)) i)=some (szV (szI a.w.2 (stW a l c i))):=fun H=>by rw[aC (fun r=>szD (szI a.w.2 r)) [] _ H (by grind[lV]),Q6 aa];rfl
   have li3:∀H,cO 2 [nPQ] [(0,szV (szI a.w.2 (stW a l c i))),(1,szV (szI a.w.2 (nth [] (nth [] (rA a) (l+1)) i)))] H=some ([szD (szI a.w.2 (stW a l c i)),szD (szI a.w.2 (nth [] (nth [] (rA a) (l+1)) i))],H):=fun H=>by
    rfl
   have sn:aS (bsH a s2 s3) [.ptr 1 1 0 3,.d (.sl 2 [szD (szI a.w.2 (stW a l c i)),szD (szI a.w.2 (nth [] (nth [] (rA a) (l+1)) i))])]=some ([.dptr (gD a.p (ia a.w.2 (kG a)) (lK a.w.2 (gO a))) 0,lst szD ([stW a l c i,nth [] (nth [] (rA a) (l+1)) i].map (szI a.w.2))],bsH a s2 s3):=by rfl
   have gl:(0:Int)<((l+1:Nat):Int):=aa;simp[jy,g,gl,i1,i2];refine aT ?_;simp(disch:=try exact ag)[el,f2,f2',j1,j2,x1,x2,j3,j4,j5,j6,li3];refine cdx sn ga ?_;simp;simp[li]
   simp_all
end
section
variable{a:Ad}
def mf(a:Ad)(k c:Nat):LLQ:=(List.range (nth [] a.cd k).length).map (cst a k c)
theorem aez(a:Ad)(k c:Nat):(mf a k c).map (szE a.w.2)=csC a k c (nth [] a.cd k).length:=by simp[mf,csC]
def vU(a:Ad):Nat->Nat->Nat->LnQ
 |0,_,_=>[]
 |m+1,k,c=>rU a.p (mf a k c)::vU a m (k+1) (rU a.p (mf a k c))
def fV(a:Ad):LnQ:=vU a a.cd.length 0 0
def dn(n:Nat):D:=di (n:Int)
theorem Vo(z:Int)(H:Hp):cO 1 [D.int IntKind.i64 0] [(0,I z)] H=some ([di z],H):=by rfl
theorem ac0(G:cI a)(H0:Hp)(hh:∃s3,H0=bsH a nnQ s3)(K:KL) :
  ∀(m:Nat)(cs:LnQ)(c:Nat),cs.length+m=a.cd.length->(∀x l,cs=l++[x]->x=c)->(0<cs.length->c<(nth [] a.cd (cs.length-1)).length) ->
  (K (.exit 0) [qS.v a.cd.length ((cs++vU a m cs.length c).map dn)] (bsH a nnQ (qS.b a.cd.length ((cs++vU a m cs.length c).map dn)))) ->
  lp (mp (CX Y) (.ptr 1 1 0 3) (.d (ia a.w.2 (rA a))) (I (rA a).length)) [2] H0 [qS.v cs.length (cs.map dn),I cs.length] (bsH a nnQ (qS.b cs.length (cs.map dn))) K
 | 0,cs,c,hk,_,_,hK=>by
  have hr:(rA a).length=a.cd.length:=by unfold rA;rw[oI,mF]
  have e:(rA a).length=cs.length:=aa;simp only[vU,Y8]at hK;have e2:a.cd.length=cs.length:=aa;rw[e2]at hK;rw[e];refine aj ?_;simp[mp];exact hK
 | m+1,cs,c,hk,hc1,hc2,hK=>by
  have hr:(rA a).length=a.cd.length:=by unfold rA;rw[oI,mF]
  have h5:=G.five;have hcl:=G.cl;have hkc:cs.length<a.cd.length:=aa;obtain⟨w1,w2,w3,w4⟩:=G.w0;obtain⟨n0,hn20⟩:=G.cn _ (aQ (d:=[]) hkc);obtain⟨r1,r2⟩:=PL G hkc
  have hcc:cs.length=0∨c<(nth [] a.cd (cs.length-1)).length:=by
   by_cases h:cs.length=0
   .omega
   .exact .inr (hc2 aa)
  have i1:∀H:Hp,ixV H 1 (.d (ia a.w.2 (rA a))) (I cs.length)=some (.dptr ((rA a).map (szL a.w.2)) cs.length):=fun H=>aJ (szL a.w.2) _ H rfl aa
  have i2:∀H:Hp,ld1 H (.dptr ((rA a).map (szL a.w.2)) cs.length)=some (.d (szL a.w.2 (nth [] (rA a) cs.length))):=fun H=>aC (szL a.w.2) [] _ H aa
  have lm:bj (.d (szL a.w.2 (nth [] (rA a) cs.length)))=some (I (nth [] a.cd cs.length).length):=by rw[<-r1];rfl
  have g:(cs.length:Int)<(rA a).length:=aa;have ckl:(mf a cs.length c).length=(nth [] a.cd cs.length).length:=by simp[mf]
  have hlt:=yc (p:=a.p) (cs:=mf a cs.length c) aa;have l1:=fun(ch:V)(s3:Nat×Bk) (hch) (K2)=>acZ G hkc hcc (ch:=ch) (s3:=s3) hch (bsH a nnQ s3) rfl K2 (nth [] a.cd cs.length).length 0 (Zp _)
  have okc:okR a.p 400000000 (mf a cs.length c):=fun r hr=>by
   grind[mf,aey]
  have l2:=fun(s3:Nat×Bk)(H:Hp)(hH:H.length=5)(K2:KL)=>acY G.hp w1.1 aa (Bd:=400000000) aa a (ia a.w.2 (kG a)) (lK a.w.2 (gO a)) rfl okc aa aa s3 H hH K2 (mf a cs.length c) [] 0 rfl aa
  rw[ckl,aez]at l2;have hl3:(cs.map dn).length=cs.length*1:=af
  have hch:0<cs.length->∀s2,∃w,ixV (bsH a s2 (qS.b cs.length (cs.map dn))) 1 (qS.v cs.length (cs.map dn)) (I ((cs.length:Int)-1))=some w∧ld1 (bsH a s2 (qS.b cs.length (cs.map dn))) w=some (I c):=fun hp s2=>by
   obtain⟨n,hn⟩:∃n,cs.length=n+1:=⟨cs.length-1,aa⟩;have hs:(bsH a s2 (qS.b cs.length (cs.map dn)))[3]?=some (1,.data 1 (cs.map dn) false false):=by rw[hn];rfl
   have hv:qS.v cs.length (cs.map dn)=.ref 3 1 0 cs.length cs.length cs.length:=by
    have:(cs.map dn).length=cs.length:=List.length_map _
    conv=>lhs;rw[hn]
    simp only[Acc.v,qS,this,hn]
   have x1:=ixB (f:=dn) hs rfl (i:=cs.length-1) aa .i64;have x2:=ldB (f:=dn) 0 hs rfl (i:=cs.length-1) aa
   have ec:nth 0 cs (cs.length-1)=c:=by
    have hne:cs≠[]:=by rintro rfl;simp at hp
    have e:cs=cs.dropLast++[cs.getLast hne]:=(List.dropLast_concat_getLast hne).symm;have e2:(cs.dropLast).length=cs.length-1:=List.length_dropLast;rw[<-hc1 _ _ e,<-e2]
    conv=>lhs;arg 2;rw[e]
    exact bM ..
   rw[ec]at x2;have ei:((cs.length-1:Nat):Int)=(cs.length:Int)-1:=aa;rw[ei]at x1;rw[hv];exact⟨_,x1,x2⟩
  have ih:=ac0 G H0 hh K m (cs++[rU a.p (mf a cs.length c)]) (rU a.p (mf a cs.length c)) (by grind) (fun x l e=>by
   grind [List.append_inj_right']) (fun _=>by simpa using by omega) (by
    have e:(cs++[rU a.p (mf a cs.length c)]).length=cs.length+1:=af
    grind[vU])
  refine aj ?_;simp[mp,g,i1,i2,lm];refine lo (l1 _ _ hch _ ?_);have la:bj (tB.v (nth [] a.cd cs.length).length (csC a cs.length c (nth [] a.cd cs.length).length))=some (I (nth [] a.cd cs.length).length):=E4 ..;obtain⟨v3,hv3⟩:∃s,s=qS.v cs.length (cs.map dn):=⟨_,rfl⟩;obtain⟨s3,hs3⟩:∃s,s=qS.b cs.length (cs.map dn):=⟨_,rfl⟩
  have fin:∀(x:D)(s2:Nat×Bk)(q:kkQ)(u:PU q),q (qS.v (cs.length+1) (cs.map dn++[x])) (bsH a s2 (qS.b (cs.length+1) (cs.map dn++[x])))->rh (apV false 3 1 8 v3 (.d (.sl 1 [x])) (bsH a s2 s3)) q u:=fun x s2 q u hq=>by
   rw[hv3,hs3];exact hO qS (L:=cs.length) (k:=1) (cells:=cs.map dn) (cs:=[x]) aa rfl hl3 rfl rfl (fun t e=>by cases e) aa ae hq
  rw[<-hv3,<-hs3];simp[la];refine lo (l2 _ _ rfl _ ?_);simp[Vo];refine fin _ _ _ .mk ?_;have g2:biI .add (I cs.length) (.d (.int .i64 1))=some (I ((cs.length+1:Nat):Int)):=wE aa
  show bnd _ _
  rw[g2];obtain⟨y,rfl⟩:=hh;have o1:∀L c,kH [2] (qS.v L c)=true:=fun L c=>oe _ _ _ _ rfl
  have o3:∀L c,offB [2] (qS.b L c).2=true:=fun L c=>fO _ _ _ _ rfl
  have oa:offB [2] (adB a).2=true:=rfl;refine⟨?_,?_⟩
  .rfl
  .have er:∀s2 s3,au [2] 0 (bsH a nnQ y) (bsH a s2 s3)=bsH a nnQ s3:=fun _ _=>rfl
   rw[er];have ed:cs.map dn++[di (tC a.p (mf a cs.length c) 0 0 (mf a cs.length c):Nat)]=(cs++[rU a.p (mf a cs.length c)]).map dn:=by simp[dn,rU]
   have el:(cs++[rU a.p (mf a cs.length c)]).length=cs.length+1:=af
   grind
theorem Ce(a:Ad):∀(m k c:Nat),(vU a m k c).length=m
 |0,_,_=>rfl
 |m+1,k,c=>by simp only[vU,List.length_cons,Ce a m]
def k8(a:Ad):LiQ:=nth [] (nth [] (rA a) 0) (nth 0 (fV a) 0)
theorem QW(G:cI a):CP Y F.gH [.agg (adC a)] (.tup [.d (.sl a.cd.length ((fV a).map dn)),szV (szI a.w.2 (k8 a)),I 0]):=by
 refine A0 ?_;have h5:=G.five;have hcl:=G.cl;have hlen:=G.wk.len;obtain⟨hin,hp0⟩:=eh G.hp;have hNp:=hin.2.1;have ck:=G.check;have we:=SJ G (h:=[adB a,nnQ,nnQ,nnQ,nnQ]) rfl;have re:CP Y F.cE [.dptr (grD a) 0] (.tup [.d (ia a.w.2 (rA a)),I 0]):=Ua G.pre.cost
 have bx:=xy (a:=a) 0 [nnQ,nnQ,nnQ,nnQ,nnQ] [adB a,nnQ,nnQ,nnQ,nnQ] rfl rfl;have l6:ldA [adB a,nnQ,nnQ,nnQ,nnQ] 6 (.ptr 0 1 0 6)=some (.agg (adC a)):=rfl
 have sn:aS ([adB a,nnQ,nnQ,nnQ,nnQ].set 1 (0+1,.vars ((grD a).map .d))) [.ptr 1 (0+1) 0 (grD a).length]=some ([.dptr (grD a) 0],bsH a nnQ nnQ):=rfl;have lR:bj (.d (ia a.w.2 (rA a)))=some (I (rA a).length):=rfl;have hr:(rA a).length=a.cd.length:=by unfold rA;rw[oI,mF]
 have h0c:0<a.cd.length:=aa;obtain⟨r1,r2⟩:=PL G h0c;obtain⟨n,hn⟩:∃n,a.cd.length=n+1:=⟨a.cd.length-1,aa⟩;have bl:(fV a).length=a.cd.length:=Ce ..
 have b0:nth 0 (fV a) 0<(nth [] (rA a) 0).length:=by
  have:nth 0 (fV a) 0=rU a.p (mf a 0 0):=by unfold fV;rw[hn];rfl
  rw[this,r1];have hlt:=yc (p:=a.p) (cs:=mf a 0 0) (by grind[cI.cn,aQ,mf]);simpa[mf]using hlt
 have rr:=r2 _ (aQ (d:=[]) b0);have i1:∀H:Hp,ixV H 1 (.d (ia a.w.2 (rA a))) (.d (.int .i64 0))=some (.dptr ((rA a).map (szL a.w.2)) 0):=fun H=>aJ (szL a.w.2) _ H rfl aa
 have i2:∀H:Hp,ld1 H (.dptr ((rA a).map (szL a.w.2)) 0)=some (.d (szL a.w.2 (nth [] (rA a) 0))):=fun H=>aC (szL a.w.2) [] _ H aa
 have i3:∀H:Hp,ixV H 1 (.d (szL a.w.2 (nth [] (rA a) 0))) (I (nth 0 (fV a) 0:Nat))=some (.dptr ((nth [] (rA a) 0).map fun r=>szD (szI a.w.2 r)) (nth 0 (fV a) 0)):=fun H=>aJ (fun r=>szD (szI a.w.2 r)) _ H rfl b0
 have i4:∀H:Hp,ld1 H (.dptr ((nth [] (rA a) 0).map fun r=>szD (szI a.w.2 r)) (nth 0 (fV a) 0))=some (szV (szI a.w.2 (k8 a))):=fun H=>aC (fun r=>szD (szI a.w.2 r)) [] _ H b0
 have hs:(bsH a nnQ (qS.b a.cd.length ((fV a).map dn)))[3]?=some (1,.data 1 ((fV a).map dn) false false):=by rw[hn];rfl
 have hv:qS.v a.cd.length ((fV a).map dn)=.ref 3 1 0 a.cd.length a.cd.length a.cd.length:=by
  have:((fV a).map dn).length=a.cd.length:=by rw[List.length_map,bl]
  conv=>lhs;rw[hn]
  simp only[Acc.v,qS,this,hn]
 have x1:=ixB (f:=dn) hs bl (i:=0) h0c .i64;have x2:=ldB (f:=dn) 0 hs bl (i:=0) h0c;have csz:=OJ (h:=bsH a nnQ (qS.b a.cd.length ((fV a).map dn))) (l:=szI a.w.2 (k8 a)) (by rw[hn];rfl) (by grind[ci,k8]) (by grind[ci,k8])
 have main:=ac0 G (bsH a nnQ nnQ) ⟨_,rfl⟩ (exK [(Exit.exit 0,fun l15 h=>
   bnd (ixV h 1 (.d (ia a.w.2 (rA a))) (.d (.int .i64 0))) fun v16=>
   bnd (ld1 h v16) fun v17=>
   bnd (ixV h 1 (ge l15 0) (.d (.int .i64 0))) fun v18=>
   bnd (ld1 h v18) fun v19=>
   bnd (ixV h 1 v17 v19) fun v20=>
   bnd (ld1 h v20) fun v21=>
   cai (CX Y).i h (.fn F.aM [] []) [v21] 4 fun v22 h=>
   out (.tup [.d (.sl a.cd.length ((fV a).map dn)),szV (szI a.w.2 (k8 a)),I 0]) (.tup [(ge l15 0),v22,(.d (.int .i64 0))]) h),
   (.ret,fun l15 h=>out (.tup [.d (.sl a.cd.length ((fV a).map dn)),szV (szI a.w.2 (k8 a)),I 0]) (.tup [(ge l15 1),(ge l15 2),(ge l15 0)]) h)]) a.cd.length [] 0 af (fun x l e=>by simp at e) (fun h=>by simp at h) (by
  rw[List.nil_append]
  show exK _ _ [qS.v a.cd.length ((fV a).map dn)] (bsH a nnQ (qS.b a.cd.length ((fV a).map dn)))
  rw[hv];have e0:((0:Nat):Int)=0:=rfl;rw[e0]at x1;have e1:V.d (dn (nth 0 (fV a) 0))=I (nth 0 (fV a) 0:Nat):=rfl;rw[e1]at x2;generalize hH:bsH a nnQ (qS.b a.cd.length ((fV a).map dn))=H at *;simp only[iP,DJ,i1,AW,i2,x1,x2,i3,i4];refine fe (e:=0) (b:=.none) csz (by rw[<-hH];rfl) ?_
  have fl:(((szI a.w.2 (k8 a)).map tx).flatMap aK).length=(szI a.w.2 (k8 a)).length*2:=by rw[d6 aK bQ,List.length_map]
  have e4:V.d (.sl (szI a.w.2 (k8 a)).length (((szI a.w.2 (k8 a)).map tx).flatMap aK))=szV (szI a.w.2 (k8 a)):=by unfold szV qm;rw[List.length_map]
  rw[<-e4,<-hH];generalize((szI a.w.2 (k8 a)).map tx).flatMap aK=cells at *;generalize(szI a.w.2 (k8 a)).length=len at *;have bl':((fV a).map dn).length=a.cd.length:=by rw[List.length_map,bl]
  generalize(fV a).map dn=bc at *;refine⟨[adB a,(1,.data 1 (grD a) false true),nnQ,(1,.data 1 bc false true),(1,.data 2 cells false true)],?_⟩
  show bJ _ (.tup [.ref 3 1 0 a.cd.length a.cd.length a.cd.length,.ref 4 1 0 len len cells.length,I 0])=_
  have t1:toD ((bsH a nnQ (qS.b a.cd.length bc)).set 4 (0+1,.data 2 cells false false)) (.ref 3 1 0 a.cd.length a.cd.length a.cd.length)=some (.sl a.cd.length bc,[adB a,(1,.data 1 (grD a) false true),nnQ,(1,.data 1 bc false true),(1,.data 2 cells false false)]):=by
   have hg:aw ((bsH a nnQ (qS.b a.cd.length bc)).set 4 (0+1,.data 2 cells false false)) 3 1=.data 1 bc false false:=by rw[hn];rfl
   simp only[toD,hg];rw[if_pos ⟨bl'.symm,Z7 _,aa⟩];simp only[Zj,Yc];rw[Z6 aa];congr 2
  have t2:toD [adB a,(1,.data 1 (grD a) false true),nnQ,(1,.data 1 bc false true),(1,.data 2 cells false false)] (.ref 4 1 0 len len cells.length)=some (.sl len cells,[adB a,(1,.data 1 (grD a) false true),nnQ,(1,.data 1 bc false true),(1,.data 2 cells false true)]):=by
   have hg:aw [adB a,(1,.data 1 (grD a) false true),nnQ,(1,.data 1 bc false true),(1,.data 2 cells false false)] 4 1=.data 2 cells false false:=rfl;simp only[toD,hg];rw[if_pos ⟨trivial,Z7 _,aa⟩];simp only[Zj];rw[Z6 aa];rfl
  simp_all[bJ,aS])
 simp[gH,bx,l6];refine cd ck ?_;simp[l6];refine jC (XT (e:=0) (b:=.none) we rfl ?_);simp;refine cdz sn re ?_;rw[show fN (V.tup [V.d (ia a.w.2 (rA a)),I 0])=false from rfl,if_neg ae];simp[lR];exact main
end
theorem Hm{r:LiQ}(hN:r.length<1000000)(K:KL)(hK:K (.exit 0) [] []):∀(q l:LiQ),l++q=r ->
  lp (jX (CX Y) (lst di r) (lst di r)) [] [] [I l.length] [] K
 | [],l,hl=>by
  have e:l=r:=by simpa using hl
  subst e;refine aj ?_;simp[jX];exact hK
 | x::q,l,hl=>by
  have hll:r.length=l.length+(q.length+1):=by rw[<-hl];simp
  have ih:=Hm hN K hK q (l++[x]) (by grind);have i1:∀H:Hp,ixV H 1 (lst di r) (I l.length)=some (.dptr (r.map di) l.length):=fun H=>aJ di _ H rfl aa
  have i2:∀H:Hp,ld1 H (.dptr (r.map di) l.length)=some (I x):=fun H=>by rw[aC di 0 r H aa,<-hl,bM];rfl
  have g:(l.length:Int)<r.length:=aa;have e2:((l++[x]).length:Int)=(l.length:Int)+1:=af;rw[e2]at ih;have hre:au [] 0 [] []=([]:Hp):=rfl;have lr:bj (lst di r)=some (I r.length):=rfl;refine aj ?_;simp(disch:=try exact ag)[jX,lr,g,i1,i2];exact ih
theorem Rk{r:LiQ}(hN:r.length<1000000):CP Y F.ix [lst di r,lst di r] (B true):=by refine yp ?_;have lr:bj (lst di r)=some (I r.length):=rfl;have:=Hm hN (exK [(Exit.exit 0,fun l4 h=>out (B true) (B true) h),(Exit.ret,fun l4 h=>out (B true) (ge l4 0) h)]) (nN rfl) r [] rfl;simp[ix,lr];exact this
theorem YG(x:Q):biA [.str [],.str []] .neq (.agg (qT x)) (.agg (qT x))=some (B false):=by simp[biA,qT,C3,eqC]
theorem Hl{r:List Q}(hN:r.length<1000000)(K:KL)(hK:K (.exit 0) [] []):∀(q l:List Q),l++q=r ->
  lp (jW (CX Y) (szV r) (szV r)) [] [] [I l.length] [] K
 | [],l,hl=>by
  have e:l=r:=by simpa using hl
  subst e;have lr:bj (szV l)=some (I l.length):=by simp[szV]
  refine aj ?_;simp[jW,lr];exact hK
 | x::q,l,hl=>by
  have hll:r.length=l.length+(q.length+1):=by rw[<-hl];simp
  have ih:=Hl hN K hK q (l++[x]) (by grind);obtain⟨w,w1,w2⟩:=SY r [] (i:=l.length) aa;have hn:nth (0,1) r l.length=x:=by rw[<-hl,bM]
  rw[hn]at w2;have g:(l.length:Int)<r.length:=aa;have e2:((l++[x]).length:Int)=(l.length:Int)+1:=af;rw[e2]at ih;have lr:bj (szV r)=some (I r.length):=by simp[szV]
  have bs:=YG x;refine aj ?_;simp(disch:=try exact ag)[jW,lr,g,w1,w2,bs];exact ih
theorem Hk(hN:r.length<1000000):CP Y F.fL [szV r,szV r] (B true):=by
 refine yn ?_;have lr:bj (szV r)=some (I r.length):=by simp[szV]
 have:=Hl hN (exK [(Exit.exit 0,fun l4 h=>out (B true) (B true) h),(Exit.ret,fun l4 h=>out (B true) (ge l4 0) h)]) (nN rfl) r [] rfl;simp[fL,lr];exact this
def exA:Ad where
 p:=[2,3,5]
 ch:=[[[0,0,0],[-1,1,0]],[[0,0,0],[-1,1,0]],[[0,0,0],[-1,1,0]]]
 lk:=[[(1,0)],[(1,0)]]
 cd:=[[[0,0,0]],[[0,0,0],[-4,4,-1]],[[-4,4,-1]]]
 w:=(0,1)
theorem abc:cI exA where
 hp:=⟨rfl,ae⟩
 wk:=⟨ae,ae,by unfold bdR;trivial,ae,ae,by trivial⟩
 lkn:=ae
 cne:=ae
 five:=ae
 cl:=ae
 cn:=ae
 cr:=by unfold bdR;trivial
 w0:=⟨⟨ae,ae⟩,ae,ae,ae⟩
theorem abb:fV exA=[0,0,0]:=bb
theorem Ft:k8 exA=[-4,4,-1]:=bb
theorem Oy:CP Y F.fk [] (.agg (adC exA)):=by refine ve ?_;have w0:=qc (z:=0) aa aa;simp[fk,cO,jv,iH,toD];refine cd w0 ?_;simp[qT];exact⟨_,rfl⟩
theorem Oj:CP Y F.fi [] (B true):=by
 refine wW ?_;have bo:=QW abc;rw[abb,Ft]at bo;have bo':CP Y F.gH [.agg (adC exA)] (.tup [lst di [0,0,0],szV (szI 1 [-4,4,-1]),I 0]):=bo;have ro:=SD abc (c:=[0,0,0]) (by rfl);have mo:=ZD abc (c:=[0,0,0]) (by rfl);have em:LJ exA 0 (nth 0 [0,0,0] 0:Int).toNat ([0,0,0]:LiQ).tail=[(1,0,[-4,4,-1])]:=bb
 obtain⟨R,hR⟩:=nmQ (tL exA 0 [0,0,0]);have hR3:R.length=3:=by rw[hR];decide+kernel
 have hR2:nth [] R 2=[-6,6,-1]:=by rw[hR];decide+kernel
 rw[em]at mo;rw[<-hR]at ro;have es:szI 1 [-4,4,-1]=[(-4,1),(4,1),(-1,1)]:=ae;rw[es]at bo';have s1:=Hk (r:=[(-4,1),(4,1),(-1,1)]) ae
 have li3:∀H,cO 3 [D.str [],D.str []] [(0,.agg (qT (-4,1))),(1,.agg (qT (4,1))),(2,.agg (qT (-1,1)))] H=some (aK (tx (-4,1))++aK (tx (4,1))++aK (tx (-1,1)),H):=fun H=>by
  rfl
 have sn1:∀H,aS H [szV [(-4,1),(4,1),(-1,1)],.d (.sl 3 (aK (tx (-4,1))++aK (tx (4,1))++aK (tx (-1,1))))]=some ([szV [(-4,1),(4,1),(-1,1)],szV [(-4,1),(4,1),(-1,1)]],H):=fun _=>rfl
 have x1:ld1 [adB exA] (.dptr [di 0,di 0,di 0] 1)=some (I 0):=rfl;have i1:∀H:Hp,ixV H 1 (mat R) (.d (.int .i64 2))=some (.dptr (R.map row) 2):=fun H=>aJ row R H rfl aa
 have i2:∀H:Hp,ld1 H (.dptr (R.map row) 2)=some (lst di [-6,6,-1]):=fun H=>by rw[aC row [] R H aa,hR2];rfl
 have lr:bj (mat R)=some (I 3):=by rw[show bj (mat R)=some (I R.length)from rfl,hR3];rfl
 have li4:∀H,cO 3 [D.int IntKind.i64 0] [(0,I (-6)),(1,I 6),(2,I (-1))] H=some ([di (-6),di 6,di (-1)],H):=fun H=>by
  rfl
 have m1:∀H:Hp,ixV H 3 (qm mvC [(1,0,[-4,4,-1])]) (.d (.int .i64 0))=some (.dptr (mvC (1,0,[-4,4,-1])) 0):=fun H=>rfl
 have m2:∀H:Hp,ld1 H (.dptr (mvC (1,0,[-4,4,-1])) 0)=some (I 1):=fun H=>rfl
 have s2:=Rk (r:=[-6,6,-1]) ae;have wa:=qc (z:=-4) aa aa;have wb:=qc (z:=4) aa aa;have wc:=qc (z:=-1) aa aa;have l6':=(xn _ _ _ _ _ _).symm.trans (show ldA [adB exA] 6 (.ptr 0 1 0 6)=some (.agg (adC exA))from rfl)
 have stx:∀(k:kkQ)(u:PU k),rh (stD [(1,.vars [.d nPQ,.d nPQ,.d nPQ,.d nPQ,.d (.str []),.d (.str [])])] 6 (.ptr 0 1 0 6) (.agg (adC exA))) k u=k .junk [adB exA]:=fun _ _=>rfl
 have st1:st [(1,.vars [.d nPQ,.d nPQ,.d nPQ,.d nPQ,.d (.str []),.d (.str [])])] 6 (.ptr 0 1 0 6) (.agg (adC exA))=some [adB exA]:=rfl;have l6:ldA [adB exA] 6 (.ptr 0 1 0 6)=some (.agg (adC exA)):=rfl;simp[fi];refine cd Oy ?_ (by rfl);simp[stx,l6,l6'];refine cd bo' ?_;simp[l6,l6']
 refine cd ro ?_;simp[l6,l6'];refine cd mo ?_;simp[x1];refine cd wa ?_;simp;refine cd wb ?_;simp;refine cd wc ?_;simp[li3];refine cdx (sn1 _) s1 ?_;simp(disch:=try exact ag)[lr,i1,i2,li4];refine cd s2 ?_;simp(disch:=try exact ag)[m1,m2]
def CV(j:Nat):IntKind:=if 6<=j∧j<51 then .i8 else if 73<=j∧j<119 then .i8 else .u8
def plD(f:Nat->Int)(j:Nat):D:=.int (CV j) (f j)
def Lq(f:Nat->Int):LwQ:=(List.range 68).map fun j=>.d (plD f j)
def plB(f:Nat->Int):Nat×Bk:=(1,.vars (Lq f))
structure GW(f:Nat->Int):Prop where
 u:∀j<120,CV j=.u8->0<=f j∧f j<=255
 s:∀j<120,CV j=.i8->-128<=f j∧f j<=127
theorem tG(h:(j<6∨51<=j)∧(j<73∨119<=j)):CV j=.u8:=by unfold CV;rw[if_neg aa,if_neg aa]
theorem xo(h:(6<=j∧j<51)∨(73<=j∧j<119)):CV j=.i8:=by
 unfold CV;by_cases g:6<=j∧j<51
 .rw[if_pos g]
 .rw[if_neg g,if_pos aa]
theorem Ru(g:Nat->α)(h:j<n):((List.range n).map g)[j]?=some (g j):=by simp[h]
theorem Hv(g:Nat->α)(h:j+m<=n):cut ((List.range n).map g) j m=some ((List.range m).map fun i=>g (j+i)):=by
 simp only[cut,List.length_map,Y0];rw[if_pos h];congr 1;apply Wp
 .grind
 simp
theorem Uu(hj:j<68):ld1 (plB f::H) (.ptr 0 1 j 68)=some (.d (plD f j)):=by grind[aw,plB,Lq,ld1]
theorem Ut(hj:j+m<=68):ldA (plB f::H) m (.ptr 0 1 j 68)=some (.agg ((List.range m).map fun i=>.d (plD f (j+i)))):=by grind[aw,plB,Lq,ldA,Hv]
def ntF(f:Nat->Int)(i:Nat):Nat:=1+(f (1+i)).toNat%3
def rwF(f:Nat->Int)(j:Nat):LiQ:=[(f j).tmod 9,(f (j+1)).tmod 9,(f (j+2)).tmod 9]
def chF(f:Nat->Int)(i:Nat):LLQ:=(List.range (ntF f i)).map fun k=>rwF f (6+i*9+k*3)
theorem TH(f:Nat->Int)(j:Nat):(rwF f j).length=3∧bdR 8 (rwF f j):=by
 refine⟨rfl,fun x hx=>?_⟩
 have h:∀z:Int,-8<=z.tmod 9∧z.tmod 9<=8:=fun z=>by
  have h1:=Wn z (b:=9) ae
  have h2 : -9<z.tmod 9:=by
   rcases Int.le_total 0 z with h|h
   .grind
   .have e:z.tmod 9 = -((-z).tmod 9):=by rw[Int.neg_tmod,Int.neg_neg]
    grind
  omega
 simp only[rwF,Zo,Ys,or_false]at hx;rcases hx with rfl|rfl|rfl<;>exact h _
def tJ:Acc:=⟨5,0,1,.none⟩
def m1H(f:Nat->Int)(s1 s2 s3 s4 s5 s6 s7 s8 s9:Nat×Bk):Hp:=[plB f,s1,s2,s3,s4,s5,s6,s7,s8,s9]
def chC(f:Nat->Int)(i n:Nat):LdQ:=(List.range n).map fun k=>row (rwF f (6+i*9+k*3))
theorem XH(f:Nat->Int)(i n:Nat):chC f i (n+1)=chC f i n++[row (rwF f (6+i*9+n*3))]:=by simp[chC,Y3]
theorem U7{f:Nat->Int}(P:GW f){i:Nat}(hi:i<5){s1 s2 s3 s6 s7 s8 s9:Nat×Bk}(b1:offB [4] s1.2=true)(b2:offB [4] s2.2=true)(b3:offB [4] s3.2=true)(b6:offB [4] s6.2=true)(b7:offB [4] s7.2=true)(b8:offB [4] s8.2=true)(b9:offB [4] s9.2=true)
  (K:KL) (hK:K (.exit 2) [tJ.v (ntF f i) (chC f i (ntF f i))] (m1H f s1 s2 s3 nnQ (tJ.b (ntF f i) (chC f i (ntF f i))) s6 s7 s8 s9)) :
  ∀(m k:Nat),k+m=ntF f i ->
  lp (jU (CX Y) (.ptr 0 1 0 68) (I i) (I (ntF f i))) [4] (m1H f s1 s2 s3 nnQ nnQ s6 s7 s8 s9) [tJ.v k (chC f i k),I k] (m1H f s1 s2 s3 nnQ (tJ.b k (chC f i k)) s6 s7 s8 s9) K
 | 0,k,hk=>by
  have ek:ntF f i=k:=aa;rw[ek]at hK ⊢;refine aj ?_;simp[jU];exact hK
 | m+1,k,hk=>by
  have h3:ntF f i<=3:=by have:=Y7 (f (1+i)).toNat (show 0<3 by decide);unfold ntF;omega
  have ih:=U7 P hi (s1:=s1) (s2:=s2) (s3:=s3) (s6:=s6) (s7:=s7) (s8:=s8) (s9:=s9) b1 b2 b3 b6 b7 b8 b9 K hK m (k+1) aa;rw[XH]at ih;obtain⟨j,hj⟩:=nmQ (6+i*9+k*3);have hjl:j+3<=51:=aa;have k0:plD f j=.int .i8 (f j):=by unfold plD;rw[xo aa]
  have k1:plD f (j+1)=.int .i8 (f (j+1)):=by unfold plD;rw[xo aa]
  have k2:plD f (j+2)=.int .i8 (f (j+2)):=by unfold plD;rw[xo aa]
  have q0:=P.s j aa (xo aa);have q1:=P.s (j+1) aa (xo aa);have q2:=P.s (j+2) aa (xo aa)
  have r1:ldA (m1H f s1 s2 s3 nnQ (tJ.b k (chC f i k)) s6 s7 s8 s9) 3 (.ptr 0 1 j 68)=some (.agg [.d (.int .i8 (f j)),.d (.int .i8 (f (j+1))),.d (.int .i8 (f (j+2)))]):=by
   have:=Ut (f:=f) (H:=[s1,s2,s3,nnQ,tJ.b k (chC f i k),s6,s7,s8,s9]) (j:=j) (m:=3) aa;rw[<-k0,<-k1,<-k2];exact this
  have r1':=(xn _ _ _ _ _ _).symm.trans r1;have c1:(chC f i k).length=k*1:=by simp[chC]
  have g:(k:Int)<ntF f i:=aa;have g5:(i:Int)<5:=aa;have gk3:(k:Int)<3:=aa;have rb:=TH f j;obtain⟨x,hx⟩:=nmQ (f j);obtain⟨y,hy⟩:=nmQ (f (j+1));obtain⟨z,hz⟩:=nmQ (f (j+2));have er:rwF f j=[x.tmod 9,y.tmod 9,z.tmod 9]:=by rw[hx,hy,hz];rfl
  rw[<-hj,er]at ih;rw[<-hx,<-hy,<-hz]at r1 r1';rw[<-hx]at q0;rw[<-hy]at q1;rw[<-hz]at q2;have al:∀(q:kkQ)(u:PU q),rh (alD 4 1 [.int .i8 0,.int .i8 0,.int .i8 0] (m1H f s1 s2 s3 nnQ (tJ.b k (chC f i k)) s6 s7 s8 s9)) q u=q (.ptr 4 1 0 3) (m1H f s1 s2 s3 (1,.data 1 [.int .i8 0,.int .i8 0,.int .i8 0] true false) (tJ.b k (chC f i k)) s6 s7 s8 s9):=fun _ _=>rfl
  have sd:∀(q:kkQ)(u:PU q),rh (stD (m1H f s1 s2 s3 (1,.data 1 [.int .i8 0,.int .i8 0,.int .i8 0] true false) (tJ.b k (chC f i k)) s6 s7 s8 s9) 3 (.ptr 4 1 0 3) (.agg [.d (.int .i8 x),.d (.int .i8 y),.d (.int .i8 z)])) q u=q .junk (m1H f s1 s2 s3 (1,.data 1 [.int .i8 x,.int .i8 y,.int .i8 z] true false) (tJ.b k (chC f i k)) s6 s7 s8 s9):=fun _ _=>rfl
  have t0:ld1 (m1H f s1 s2 s3 (1,.data 1 [.int .i8 x,.int .i8 y,.int .i8 z] true false) (tJ.b k (chC f i k)) s6 s7 s8 s9) (.ptr 4 1 0 3)=some (.d (.int .i8 x)):=rfl;have t1:ld1 (m1H f s1 s2 s3 (1,.data 1 [.int .i8 x,.int .i8 y,.int .i8 z] true false) (tJ.b k (chC f i k)) s6 s7 s8 s9) (.ptr 4 1 1 3)=some (.d (.int .i8 y)):=rfl
  have t2:ld1 (m1H f s1 s2 s3 (1,.data 1 [.int .i8 x,.int .i8 y,.int .i8 z] true false) (tJ.b k (chC f i k)) s6 s7 s8 s9) (.ptr 4 1 2 3)=some (.d (.int .i8 z)):=rfl;have t0':=(mu _ _ _ _ _).symm.trans t0;have t1':=(mu _ _ _ _ _).symm.trans t1;have t2':=(mu _ _ _ _ _).symm.trans t2
  have li3:∀H,cO 3 [D.int IntKind.i64 0] [(0,I (x.tmod 9)),(1,I (y.tmod 9)),(2,I (z.tmod 9))] H=some ([di (x.tmod 9),di (y.tmod 9),di (z.tmod 9)],H):=fun H=>by
   rfl
  have li1:∀H,cO 1 [nPQ] [(0,.d (.sl 3 [di (x.tmod 9),di (y.tmod 9),di (z.tmod 9)]))] H=some ([row [x.tmod 9,y.tmod 9,z.tmod 9]],H):=fun H=>by
   rfl
  refine aj ?_;simp(disch:=try exact ag)[jU,g,g5,gk3,<-hj,r1,r1',al,sd,t0,t0',t1,t1',t2,t2',li3,li1];refine hO tJ (L:=k) (k:=1) (cells:=chC f i k) (cs:=[row [x.tmod 9,y.tmod 9,z.tmod 9]]) aa rfl c1 rfl rfl (fun t e=>by cases e) aa ae ?_;have g2:biI .add (I k) (.d (.int .i64 1))=some (I ((k+1:Nat):Int)):=wE aa
  show bnd _ _
  rw[g2]
  have b0:offB [4] (plB f).2=true:=by
   have:∀(l:LnQ),dT [4] (l.map fun j=>V.d (plD f j))=true:=fun l=>by
    induction l with
    |nil=>rfl
    |cons x l ih=>trivial
   exact this _
  have o5:∀L c,offB [4] (tJ.b L c).2=true:=fun L c=>fO _ _ _ _ rfl
  have o5':∀L c,kH [4] (tJ.v L c)=true:=fun L c=>oe _ _ _ _ rfl
  refine⟨?_,?_⟩
  .simp only[clean,dT,o5',m1H,List.set_cons_succ,List.set_cons_zero,jm,b0,b1,b2,b3,b6,b7,b8,b9,o5,mZ,Y4,Zg,X1,tJ];rfl
  trivial
def nlF(f:Nat->Int)(n:Nat):Nat:=1+(f 67).toNat/2^n%2
def lkF(f:Nat->Int)(n k:Nat):Lk:=((f (51+n*4+k*2)).tmod (ntF f n),(f (51+n*4+k*2+1)).tmod (ntF f (n+1)))
def lkL(f:Nat->Int)(n:Nat):List Lk:=(List.range (nlF f n)).map (lkF f n)
def ccC(f:Nat->Int)(n:Nat):LdQ:=(List.range n).map fun i=>aA (chF f i)
theorem XQ(f:Nat->Int)(n:Nat):ccC f (n+1)=ccC f n++[aA (chF f n)]:=by simp[ccC,Y3]
def llC(f:Nat->Int)(n:Nat):LdQ:=(List.range n).map fun i=>lkD (lkL f i)
theorem Vh(f:Nat->Int)(n:Nat):llC f (n+1)=llC f n++[lkD (lkL f n)]:=by simp[llC,Y3]
def tI:Acc:=⟨6,0,1,.none⟩
def ww:Acc:=⟨8,0,2,.none⟩
def Dc:Acc:=⟨9,0,1,.none⟩
def wB(f:Nat->Int)(i j:Nat):Nat×Bk:=(1,.vars [.ref 2 1 0 3 3 3,tI.v i (ccC f i),Dc.v j (llC f j)])
def prB:Nat×Bk:=(1,.data 1 [di 2,di 3,di 5] true false)
def rO(f:Nat->Int)(n k:Nat):LdQ:=(List.range k).flatMap fun k=>lkC (lkF f n k)
theorem RU(f:Nat->Int)(n k:Nat):rO f n (k+1)=rO f n k++lkC (lkF f n k):=by simp[rO,Y3]
theorem HB(f:Nat->Int)(i:Nat):1<=ntF f i∧ntF f i<=3:=by grind[ntF]
theorem P0(f:Nat->Int)(i:Nat):1<=nlF f i∧nlF f i<=2:=by grind[nlF]
theorem I4(f:Nat->Int)(clr:LnQ):offB clr (plB f).2=true:=by
 have:∀(l:LnQ),dT clr (l.map fun j=>V.d (plD f j))=true:=fun l=>by
  induction l with
  |nil=>rfl
  |cons x l ih=>trivial
 rfl
theorem Iy(f:Nat->Int)(h2:dw clr 2=true)(h6:dw clr 6=true)(h9:dw clr 9=true):offB clr (wB f i j).2=true:=by grind[kH,wB,offB,dT,oe,tI,Dc]
theorem U6{f:Nat->Int}(P:GW f){n:Nat}(hn:n<4){s1 s4 s5 s9:Nat×Bk}(b1:offB [7] s1.2=true)(b4:offB [7] s4.2=true)(b5:offB [7] s5.2=true)(b9:offB [7] s9.2=true){cv:V}(hcv:bj cv=some (I (ntF f (n+1))))
  (K:KL) (hK:K (.exit 4) [ww.v (nlF f n) (rO f n (nlF f n))] (m1H f s1 prB (wB f (n+2) n) s4 s5 (tI.b (n+2) (ccC f (n+2))) nnQ (ww.b (nlF f n) (rO f n (nlF f n))) s9)) :
  ∀(m k:Nat),k+m=nlF f n ->
  lp (jT (CX Y) (.ptr 0 1 0 68) (.ptr 3 1 0 3) (I (n+1:Nat)) cv (I (nlF f n))) [7] (m1H f s1 prB (wB f (n+2) n) s4 s5 (tI.b (n+2) (ccC f (n+2))) nnQ nnQ s9) [ww.v k (rO f n k),I k]
   (m1H f s1 prB (wB f (n+2) n) s4 s5 (tI.b (n+2) (ccC f (n+2))) nnQ (ww.b k (rO f n k)) s9) K
 | 0,k,hk=>by
  have ek:nlF f n=k:=aa;rw[ek]at hK ⊢;refine aj ?_;simp[jT];exact hK
 | m+1,k,hk=>by
  obtain⟨l0,l2⟩:=P0 f n;obtain⟨n0,n3⟩:=HB f n;obtain⟨m0,m3⟩:=HB f (n+1);have ih:=U6 P hn (s1:=s1) (s4:=s4) (s5:=s5) (s9:=s9) b1 b4 b5 b9 hcv K hK m (k+1) aa;rw[RU]at ih;obtain⟨j,hj⟩:=nmQ (51+n*4+k*2);have hjl:j+2<=67:=aa;have k0:plD f j=.int .u8 (f j):=by unfold plD;rw[tG aa]
  have k1:plD f (j+1)=.int .u8 (f (j+1)):=by unfold plD;rw[tG aa]
  have q0:=P.u j aa (tG aa);have q1:=P.u (j+1) aa (tG aa)
  have r1:ldA (m1H f s1 prB (wB f (n+2) n) s4 s5 (tI.b (n+2) (ccC f (n+2))) nnQ (ww.b k (rO f n k)) s9) 2 (.ptr 0 1 j 68)=some (.agg [.d (.int .u8 (f j)),.d (.int .u8 (f (j+1)))]):=by
   have:=Ut (f:=f) (H:=[s1,prB,wB f (n+2) n,s4,s5,tI.b (n+2) (ccC f (n+2)),nnQ,ww.b k (rO f n k),s9]) (j:=j) (m:=2) aa;rw[<-k0,<-k1];exact this
  have r1':=(xn _ _ _ _ _ _).symm.trans r1;have c1:(rO f n k).length=k*2:=by unfold rO;rw[d6 (fun k=>lkC (lkF f n k)) (n:=2) (fun _=>rfl)];simp
  have g:(k:Int)<nlF f n:=aa;have gn4:(n:Int)<4:=aa;have gk2:(k:Int)<2:=aa;have gn:((n:Int)+1)-1=(n:Int):=aa;obtain⟨x,hx⟩:=nmQ (f j);obtain⟨y,hy⟩:=nmQ (f (j+1));have el:lkF f n k=(x.tmod (ntF f n),y.tmod (ntF f (n+1))):=by unfold lkF;rw[<-hj,hx,hy]
  rw[el]at ih;rw[<-hx,<-hy]at r1 r1';rw[<-hx]at q0;rw[<-hy]at q1;obtain⟨s8,hs8⟩:∃s,s=ww.b k (rO f n k):=⟨_,rfl⟩;obtain⟨v8,hv8⟩:∃s,s=ww.v k (rO f n k):=⟨_,rfl⟩;rw[<-hs8]at r1 r1'
  have fin:∀(s7:Nat×Bk)(q:kkQ)(u:PU q),q (ww.v (k+1) (rO f n k++lkC (x.tmod (ntF f n),y.tmod (ntF f (n+1))))) (m1H f s1 prB (wB f (n+2) n) s4 s5 (tI.b (n+2) (ccC f (n+2))) s7 (ww.b (k+1) (rO f n k++lkC (x.tmod (ntF f n),y.tmod (ntF f (n+1))))) s9) ->
    rh (apV false 8 2 16 v8 (.d (.sl 1 [di (x.tmod (ntF f n)),di (y.tmod (ntF f (n+1)))])) (m1H f s1 prB (wB f (n+2) n) s4 s5 (tI.b (n+2) (ccC f (n+2))) s7 s8 s9)) q u:=fun s7 q u hq=>by
   rw[hs8,hv8];exact hO ww (L:=k) (k:=1) (cells:=rO f n k) (cs:=lkC (x.tmod (ntF f n),y.tmod (ntF f (n+1)))) aa rfl c1 rfl rfl (fun t e=>by cases e) aa ae hq
  obtain⟨s6,hs6⟩:∃s,s=tI.b (n+2) (ccC f (n+2)):=⟨_,rfl⟩;obtain⟨v6,hv6⟩:∃s,s=tI.v (n+2) (ccC f (n+2)):=⟨_,rfl⟩;obtain⟨s3,hs3⟩:∃s,s=wB f (n+2) n:=⟨_,rfl⟩;have b3:offB [7] s3.2=true:=by rw[hs3];exact Iy f rfl rfl rfl
  have b6:offB [7] s6.2=true:=by rw[hs6];exact fO _ _ _ _ rfl
  have r3:∀s7,ld1 (m1H f s1 prB s3 s4 s5 s6 s7 s8 s9) (.ptr 3 1 1 3)=some v6:=fun s7=>by rw[hs3,hv6];rfl
  have r3':=fun s7=>(mu _ _ _ _ _).symm.trans (r3 s7)
  have hv:v6=.ref 6 1 0 (n+2) (n+2) (n+2):=by
   have:(ccC f (n+2)).length=n+2:=by simp[ccC]
   rw[hv6];simp only[Acc.v,tI,this]
  have r6:∀s7,∃w,ixV (m1H f s1 prB s3 s4 s5 s6 s7 s8 s9) 1 v6 (I n)=some w∧ld1 (m1H f s1 prB s3 s4 s5 s6 s7 s8 s9) w=some (.d (aA (chF f n))):=fun s7=>by
   have hs:(m1H f s1 prB s3 s4 s5 s6 s7 s8 s9)[6]?=some (1,.data 1 ((List.range (n+2)).map fun i=>aA (chF f i)) false false):=by rw[hs6];rfl
   have x1:=ixB (f:=fun i=>aA (chF f i)) hs (n:=n+2) af (i:=n) aa .i64;have x2:=ldB (f:=fun i=>aA (chF f i)) 0 hs (n:=n+2) af (i:=n) aa;have e:nth 0 (List.range (n+2)) n=n:=by rw[aN _ _ _ af];simp
   grind
  have lmx:bj (.d (aA (chF f n)))=some (I (ntF f n)):=by rw[RX];simp[chF]
  rw[<-hs6,<-hs3]at fin r1 r1' ih;rw[<-hs8,<-hv8,<-hs6,<-hs3];have al:∀(q:kkQ)(u:PU q),rh (alD 7 1 [.int .u8 0,.int .u8 0] (m1H f s1 prB s3 s4 s5 s6 nnQ s8 s9)) q u=q (.ptr 7 1 0 2) (m1H f s1 prB s3 s4 s5 s6 (1,.data 1 [.int .u8 0,.int .u8 0] true false) s8 s9):=fun _ _=>rfl
  have sd:∀(q:kkQ)(u:PU q),rh (stD (m1H f s1 prB s3 s4 s5 s6 (1,.data 1 [.int .u8 0,.int .u8 0] true false) s8 s9) 2 (.ptr 7 1 0 2) (.agg [.d (.int .u8 x),.d (.int .u8 y)])) q u=q .junk (m1H f s1 prB s3 s4 s5 s6 (1,.data 1 [.int .u8 x,.int .u8 y] true false) s8 s9):=fun _ _=>rfl
  obtain⟨s7,hs7⟩:∃s:Nat×Bk,s=(1,.data 1 [.int .u8 x,.int .u8 y] true false):=⟨_,rfl⟩;have t0:ld1 (m1H f s1 prB s3 s4 s5 s6 s7 s8 s9) (.ptr 7 1 0 2)=some (.d (.int .u8 x)):=by rw[hs7];rfl
  have t1:ld1 (m1H f s1 prB s3 s4 s5 s6 s7 s8 s9) (.ptr 7 1 1 2)=some (.d (.int .u8 y)):=by rw[hs7];rfl
  have t0':=(mu _ _ _ _ _).symm.trans t0;have t1':=(mu _ _ _ _ _).symm.trans t1;rw[<-hs7]at sd;obtain⟨w,w1,w2⟩:=r6 s7;obtain⟨p,hp⟩:∃p:Int,p=ntF f n:=⟨_,rfl⟩;obtain⟨o,ho⟩:∃p:Int,p=ntF f (n+1):=⟨_,rfl⟩;have p0:p≠0:=aa;have o0:o≠0:=aa;rw[<-hp]at lmx fin ih;rw[<-ho]at hcv fin ih
  have bl:bld [(0,1),(1,1)] [.int .i64 0,.int .i64 0] [(0,I (x.tmod p)),(1,I (y.tmod o))]=some (.agg [I (x.tmod p),I (y.tmod o)]):=rfl
  have li1:∀H,cO 1 [D.int IntKind.i64 0,D.int IntKind.i64 0] [(0,.agg [I (x.tmod p),I (y.tmod o)])] H=some ([di (x.tmod p),di (y.tmod o)],H):=fun H=>by
   rfl
  refine aj ?_;simp(disch:=try exact ag)[jT,g,gn,gn4,gk2,<-hj,r1,r1',al,sd,t0,t0',t1,t1',r3,r3',w1,w2,lmx,hcv,p0,o0,li1];refine fin _ _ .mk ?_;have g2:biI .add (I k) (.d (.int .i64 1))=some (I ((k+1:Nat):Int)):=wE aa
  show bnd _ _
  rw[g2];have o8:∀L c,offB [7] (ww.b L c).2=true:=fun L c=>fO _ _ _ _ rfl
  have o8':∀L c,kH [7] (ww.v L c)=true:=fun L c=>oe _ _ _ _ rfl
  have bp:offB [7] prB.2=true:=rfl;refine⟨?_,?_⟩
  .simp only[clean,dT,o8',m1H,jm,I4,bp,b1,b3,b4,b5,b6,b9,o8,mZ,Y4,Zg,X1];rfl
  trivial
theorem aiC{a:Nat}(h:a<256):biI .and (.d (.int .u8 a)) (.d (.int .u8 1))=some (.d (.int .u8 ((a%2:Nat):Int))):=by
 have ea:(BitVec.ofInt 8 (a:Int)).toNat=a:=by simp[BitVec.toNat_ofInt];omega
 have eb:(BitVec.ofInt 8 (1:Int)).toNat=1:=ae;have e:(BitVec.ofInt 8 (a:Int)&&&BitVec.ofInt 8 1).toNat=a%2:=by rw[BitVec.toNat_and,ea,eb,Nat.and_one_is_mod]
 show mr (some (Value.int .u8 (IntKind.wrap .u8 ((BitVec.ofInt 8 (a:Int)&&&BitVec.ofInt 8 1).toNat:Int))))=_
 rw[e,wrap_u8' aa aa];rfl
def m0K(f:Nat->Int)(z:Nat×Bk)(i:Nat):Hp:=m1H f z prB (wB f i (i-1)) nnQ nnQ (tI.b i (ccC f i)) nnQ nnQ (Dc.b (i-1) (llC f (i-1)))
theorem abz(f:Nat->Int)(i:Nat):D.sl (ntF f i) (chC f i (ntF f i))=aA (chF f i):=by simp only[aA,chF,List.length_map,Y0,Yy];rfl
theorem Vi(f:Nat->Int)(n:Nat):D.sl (nlF f n) (rO f n (nlF f n))=lkD (lkL f n):=by simp[lkD,lkL,rO,List.flatMap_map]
theorem U8{f:Nat->Int}(P:GW f){z:Nat×Bk}{N:Nat}(hN:N<=5)(b1:∀c,offB c z.2=true)(K:KL)(hK:K (.exit 0) [] (m0K f z N)) :
  ∀(m i:Nat),i+m=N ->
  lp (jV (CX Y) (.ptr 0 1 0 68) (.ptr 3 1 0 3) (I N)) [4,5,7,8] (m0K f z 0) [I i] (m0K f z i) K
 | 0,i,hi=>by
  have ei:N=i:=aa;rw[ei]at hK ⊢;refine aj ?_;simp[jV];exact hK
 | m+1,i,hi=>by
  obtain⟨n0,n3⟩:=HB f i;have ih:=U8 P hN b1 K hK m (i+1) aa;have hi5:i<5:=aa;have g:(i:Int)<N:=aa;have g5:(i:Int)<5:=aa;have k1:plD f (1+i)=.int .u8 (f (1+i)):=by unfold plD;rw[tG aa]
  have q1:=P.u (1+i) aa (tG aa)
  have ra:∀s1 s2 s3 s4 s5 s6 s7 s8 s9,ld1 (m1H f s1 s2 s3 s4 s5 s6 s7 s8 s9) (.ptr 0 1 (1+i) 68)=some (.d (.int .u8 (f (1+i)))):=fun s1 s2 s3 s4 s5 s6 s7 s8 s9=>by
   rw[<-k1];exact Uu aa
  have ra':=fun s1 s2 s3 s4 s5 s6 s7 s8 s9=>(mu _ _ _ _ _).symm.trans (ra s1 s2 s3 s4 s5 s6 s7 s8 s9)
  have tm:(f (1+i)).tmod 3=(f (1+i))%3:=Zx q1.1;have en:1+(f (1+i))%3=((ntF f i:Nat):Int):=by unfold ntF;omega
  have q1':0<=f (1+i)%3∧f (1+i)%3<=2:=aa;have l1:=fun s1 s2 s3 s6 s7 s8 s9 b1 b2 b3 b6 b7 b8 b9 K hK=>U7 P hi5 (s1:=s1) (s2:=s2) (s3:=s3) (s6:=s6) (s7:=s7) (s8:=s8) (s9:=s9) b1 b2 b3 b6 b7 b8 b9 K hK (ntF f i) 0 aa
  obtain⟨s6,hs6⟩:∃s,s=tI.b i (ccC f i):=⟨_,rfl⟩;obtain⟨v6,hv6⟩:∃s,s=tI.v i (ccC f i):=⟨_,rfl⟩;obtain⟨s9,hs9⟩:∃s,s=Dc.b (i-1) (llC f (i-1)):=⟨_,rfl⟩;obtain⟨s3,hs3⟩:∃s,s=wB f i (i-1):=⟨_,rfl⟩;have eH:m0K f z i=m1H f z prB s3 nnQ nnQ s6 nnQ nnQ s9:=by rw[hs3,hs6,hs9];rfl
  have c5:(chC f i (ntF f i)).length=ntF f i*1:=by simp[chC]
  obtain⟨v5,hv5⟩:∃v,v=tJ.v (ntF f i) (chC f i (ntF f i)):=⟨_,rfl⟩;obtain⟨s5,hs5⟩:∃v,v=tJ.b (ntF f i) (chC f i (ntF f i)):=⟨_,rfl⟩;have lv5:bj v5=some (I (ntF f i)):=by rw[hv5];exact E4 ..
  obtain⟨fr5,td⟩:=oA tJ (h:=m1H f z prB s3 nnQ s5 s6 nnQ nnQ s9) (L:=ntF f i) (c:=chC f i (ntF f i)) (by rw[hs5];rfl) c5;rw[if_neg aa,abz,<-hv5]at td;obtain⟨s5',hs5'⟩:∃s:Nat×Bk,s=(tJ.e+1,.data tJ.n (chC f i (ntF f i)) false fr5):=⟨_,rfl⟩
  have td':toD (m1H f z prB s3 nnQ s5 s6 nnQ nnQ s9) v5=some (aA (chF f i),m1H f z prB s3 nnQ s5' s6 nnQ nnQ s9):=by rw[td,hs5'];rfl
  have li5:=yZ td' (by rw[hv5];exact pU ..);have r6:ld1 (m1H f z prB s3 nnQ s5 s6 nnQ nnQ s9) (.ptr 3 1 1 3)=some v6:=by rw[hs3,hv6];rfl
  have r6':=(mu _ _ _ _ _).symm.trans r6;have cc:(ccC f i).length=i*1:=by simp[ccC]
  obtain⟨v6',hv6'⟩:∃v,v=tI.v (i+1) (ccC f (i+1)):=⟨_,rfl⟩;obtain⟨s6',hs6'⟩:∃v,v=tI.b (i+1) (ccC f (i+1)):=⟨_,rfl⟩;obtain⟨s3',hs3'⟩:∃s,s=wB f (i+1) (i-1):=⟨_,rfl⟩
  have ap6:∀(q:kkQ)(u:PU q),q v6' (m1H f z prB s3 nnQ s5' s6' nnQ nnQ s9)->rh (apV false 6 1 24 v6 (.d (.sl 1 [aA (chF f i)])) (m1H f z prB s3 nnQ s5' s6 nnQ nnQ s9)) q u:=fun q u hq=>by
   rw[hv6,hs6];refine hO tI (L:=i) (k:=1) (cells:=ccC f i) (cs:=[aA (chF f i)]) aa rfl cc rfl rfl (fun t e=>by cases e) aa ae ?_;rw[<-XQ,<-hv6'];rw[hs6']at hq;exact hq
  have sd6:∀(q:kkQ)(u:PU q),rh (stD (m1H f z prB s3 nnQ s5' s6' nnQ nnQ s9) 1 (.ptr 3 1 1 3) v6') q u=q .junk (m1H f z prB s3' nnQ s5' s6' nnQ nnQ s9):=fun q u=>by
   rw[hs3,hs3',hv6'];rfl
  have o3:∀clr,dw clr 2=true->dw clr 6=true->dw clr 9=true->offB clr s3.2=true:=fun clr h2 h6 h9=>by rw[hs3];exact Iy f h2 h6 h9
  have o6:∀clr,offB clr s6.2=true:=fun clr=>by rw[hs6];exact fO _ _ _ _ rfl
  have o9:∀clr,offB clr s9.2=true:=fun clr=>by rw[hs9];exact fO _ _ _ _ rfl
  have o6':∀clr,offB clr s6'.2=true:=fun clr=>by rw[hs6'];rfl
  have o5':∀clr,offB clr s5'.2=true:=fun clr=>by rw[hs5'];rfl
  have g2:biI .add (I i) (.d (.int .i64 1))=some (I ((i+1:Nat):Int)):=wE aa;have e0:∀s s5 s6 s7 s8 s9,au [4,5,7,8] 0 (m0K f z 0) (m1H f z prB s nnQ s5 s6 s7 s8 s9)=m1H f z prB s nnQ nnQ s6 nnQ nnQ s9:=fun s s5 s6 s7 s8 s9=>rfl
  have bp:∀clr,offB clr prB.2=true:=fun _=>rfl
  rw[eH];refine aj ?_;simp[jV,g];refine aT ?_;simp(disch:=try exact ag)[g5,ra,ra',tm,en];refine lo (l1 _ _ _ _ _ _ _ (b1 _) (bp _) (o3 _ rfl rfl rfl) (o6 _) rfl rfl (o9 _) _ ?_);rw[<-hv5,<-hs5];simp[r6,r6',li5];refine ap6 _ .mk ?_;by_cases h0:i=0
  .subst h0;simp[sd6];refine⟨?_,?_⟩
   .have o3':∀clr,dw clr 2=true->dw clr 6=true->dw clr 9=true->offB clr s3'.2=true:=fun clr h2 h6 h9=>by rw[hs3'];exact Iy f h2 h6 h9
    simp only[clean,dT,m1H,jm,I4,bp,b1,o3' [4,5,7,8] rfl rfl rfl,o5',o6',o9,mZ,Y4,Zg,X1];rfl
   .rw[e0];rw[hs3',hs6',hs9];exact ih
  .obtain⟨n,rfl⟩:∃n,i=n+1:=⟨i-1,aa⟩;have gz:¬((n+1:Nat):Int)=0:=aa;obtain⟨l0,l2⟩:=P0 f n;have k67:plD f 67=.int .u8 (f 67):=by unfold plD;rw[tG aa]
   have q67:=P.u 67 aa (tG aa);obtain⟨mm,hmm⟩:∃mm:Nat,f 67=mm:=⟨(f 67).toNat,aa⟩
   have rb:ld1 (m1H f z prB s3' nnQ s5' s6' nnQ nnQ s9) (.ptr 0 1 67 68)=some (.d (.int .u8 mm)):=by
    rw[<-hmm,<-k67];exact Uu aa
   have rb':=(mu _ _ _ _ _).symm.trans rb;have gn:((n:Int)+1)-1=(n:Int):=aa;have sh:biI .shr (.d (.int .u8 mm)) (I n)=some (.d (.int .u8 ((mm/2^n:Nat):Int))):=Ew (by show n<=8;omega);have hlt:mm/2^n<256:=Zk (Yu _ _) aa;have an:=aiC hlt;have hcst:((mm/2^n:Nat):Int)=(mm:Int)/2^n:=af
   have an':biI .and (.d (.int .u8 ((mm:Int)/2^n))) (.d (.int .u8 1))=some (.d (.int .u8 ((mm/2^n%2:Nat):Int))):=by rw[<-hcst];exact an
   obtain⟨r2,hr2⟩:∃r2:Int,r2=((mm/2^n%2:Nat):Int):=⟨_,rfl⟩
   have en2:(1:Int)+((mm/2^n%2:Nat):Int)=((nlF f n:Nat):Int):=by
    unfold nlF;rw[hmm,Int.toNat_natCast];omega
   have hm2:=Y7 (mm/2^n) (show 0<2 by decide);rw[<-hr2]at an' en2;have hr2b:0<=r2∧r2<=1:=aa;obtain⟨v9,hv9⟩:∃s,s=Dc.v n (llC f n):=⟨_,rfl⟩;have hs9':s9=Dc.b n (llC f n):=hs9;have hs3n:s3'=wB f (n+2) n:=hs3';have hs6n:s6'=tI.b (n+2) (ccC f (n+2)):=hs6'
   have l2:=fun K hK=>U6 P (n:=n) aa (s1:=z) (s4:=nnQ) (s5:=s5') (s9:=s9) (b1 _) rfl (o5' _) (o9 _) lv5 K hK (nlF f n) 0 aa
   rw[<-hs3n,<-hs6n]at l2;have c8:(rO f n (nlF f n)).length=nlF f n*2:=by unfold rO;rw[d6 (fun k=>lkC (lkF f n k)) (n:=2) (fun _=>rfl)];simp
   obtain⟨v8,hv8⟩:∃v,v=ww.v (nlF f n) (rO f n (nlF f n)):=⟨_,rfl⟩;obtain⟨s8,hs8⟩:∃v,v=ww.b (nlF f n) (rO f n (nlF f n)):=⟨_,rfl⟩;rw[<-hv8,<-hs8]at l2;obtain⟨fr8,td8⟩:=oA ww (h:=m1H f z prB s3' nnQ s5' s6' nnQ s8 s9) (L:=nlF f n) (c:=rO f n (nlF f n)) (by rw[hs8];rfl) c8;rw[if_neg aa,Vi,<-hv8]at td8
   obtain⟨s8',hs8'⟩:∃s:Nat×Bk,s=(ww.e+1,.data ww.n (rO f n (nlF f n)) false fr8):=⟨_,rfl⟩;have td8':toD (m1H f z prB s3' nnQ s5' s6' nnQ s8 s9) v8=some (lkD (lkL f n),m1H f z prB s3' nnQ s5' s6' nnQ s8' s9):=by rw[td8,hs8'];rfl
   have li8:=yZ td8' (by rw[hv8];exact pU ..);have r9:ld1 (m1H f z prB s3' nnQ s5' s6' nnQ s8 s9) (.ptr 3 1 2 3)=some v9:=by rw[hs3',hv9];rfl
   have r9':=(mu _ _ _ _ _).symm.trans r9;have cl:(llC f n).length=n*1:=by simp[llC]
   obtain⟨v9',hv9'⟩:∃v,v=Dc.v (n+1) (llC f (n+1)):=⟨_,rfl⟩;obtain⟨s9',hs9'2⟩:∃v,v=Dc.b (n+1) (llC f (n+1)):=⟨_,rfl⟩;obtain⟨s3'',hs3''⟩:∃s,s=wB f (n+2) (n+1):=⟨_,rfl⟩
   have ap9:∀(q:kkQ)(u:PU q),q v9' (m1H f z prB s3' nnQ s5' s6' nnQ s8' s9')->rh (apV false 9 1 24 v9 (.d (.sl 1 [lkD (lkL f n)])) (m1H f z prB s3' nnQ s5' s6' nnQ s8' s9)) q u:=fun q u hq=>by
    rw[hv9,hs9'];refine hO Dc (L:=n) (k:=1) (cells:=llC f n) (cs:=[lkD (lkL f n)]) aa rfl cl rfl rfl (fun t e=>by cases e) aa ae ?_;rw[<-Vh,<-hv9'];rw[hs9'2]at hq;exact hq
   have sd9:∀(q:kkQ)(u:PU q),rh (stD (m1H f z prB s3' nnQ s5' s6' nnQ s8' s9') 1 (.ptr 3 1 2 3) v9') q u=q .junk (m1H f z prB s3'' nnQ s5' s6' nnQ s8' s9'):=fun q u=>by
    rw[hs3n,hs3'',hv9'];rfl
   simp(disch:=try exact ag)[sd6,gz,rb,rb',gn,sh,an',en2];refine lo (l2 _ ?_);simp[r9,r9',li8];refine ap9 _ .mk ?_;simp(disch:=try exact ag)[sd9];have o3':∀clr,dw clr 2=true->dw clr 6=true->dw clr 9=true->offB clr s3''.2=true:=fun clr h2 h6 h9=>by rw[hs3''];exact Iy f h2 h6 h9
   have o8':∀clr,offB clr s8'.2=true:=fun clr=>by rw[hs8'];rfl
   have o9':∀clr,offB clr s9'.2=true:=fun clr=>by rw[hs9'2];rfl
   refine⟨?_,?_⟩
   .simp only[clean,dT,m1H,jm,I4,bp,b1,o3' [4,5,7,8] rfl rfl rfl,o5',o6',o8',o9',mZ,Y4,Zg,X1];rfl
   .rw[e0];rw[hs3'',hs6',hs9'2];have e1:((n+1+1:Nat):Int)=(n:Int)+1+1:=aa;trivial
theorem UH{h2 h3:Hp}{a b c va vb vc:V}(ha:bJ h a=some (va,h1))(hb:bJ h1 b=some (vb,h2))(hc:bJ h2 c=some (vc,h3)):out (.agg [va,vb,vc]) (.agg [a,b,c]) h:=
 ⟨h3,by simp_all[bJ,aS]⟩
def dR(f:Nat->Int):Nat:=1+(f 0).toNat%5
def oO(f:Nat->Int):List LLQ:=(List.range (dR f)).map (chF f)
def tZ(f:Nat->Int):List (List Lk):=(List.range (dR f-1)).map (lkL f)
theorem RQ(P:GW f):CP Y F.iw [.agg (Lq f)] (.agg (wkC [2,3,5] (oO f) (tZ f))):=by
 refine ym ?_;have k0:plD f 0=.int .u8 (f 0):=by unfold plD;rw[tG aa]
 have q0:=P.u 0 aa (tG aa);have tm:(f 0).tmod 5=(f 0)%5:=Zx q0.1;have en:1+(f 0)%5=((dR f:Nat):Int):=by unfold dR;omega
 have hN:1<=dR f∧dR f<=5:=by have:=Y7 (f 0).toNat (show 0<5 by decide);unfold dR;omega
 have q0':0<=f 0%5∧f 0%5<=4:=aa;obtain⟨z,hz⟩:∃z:Nat×Bk,z=(1,.vars [.d nPQ,.d nPQ,.d nPQ]):=⟨_,rfl⟩
 have bx:∀(q:kkQ)(u:PU q),rh (cQ 0 (.agg (Lq f)) [nnQ,nnQ,nnQ,nnQ,nnQ,nnQ,nnQ,nnQ,nnQ,nnQ]) q u=q (.ptr 0 1 0 68) [plB f,nnQ,nnQ,nnQ,nnQ,nnQ,nnQ,nnQ,nnQ,nnQ]:=fun q u=>by
  have hl:(Lq f).length=68:=by simp[Lq]
  rfl
 have a1:∀(q:kkQ)(u:PU q),rh (alV 1 [.d nPQ,.d nPQ,.d nPQ] [plB f,nnQ,nnQ,nnQ,nnQ,nnQ,nnQ,nnQ,nnQ,nnQ]) q u=q (.ptr 1 1 0 3) (m1H f z nnQ nnQ nnQ nnQ nnQ nnQ nnQ nnQ):=fun q u=>by rw[hz];rfl
 have l2:∀(q:kkQ)(u:PU q),rh (rq 2 3 [.int .i64 0] [(0,(.d (.int .i64 2))),(1,(.d (.int .i64 3))),(2,(.d (.int .i64 5)))] (m1H f z nnQ nnQ nnQ nnQ nnQ nnQ nnQ nnQ)) q u=q (.ref 2 1 0 3 3 3) (m1H f z prB nnQ nnQ nnQ nnQ nnQ nnQ nnQ):=fun _ _=>rfl
 have a3:∀(q:kkQ)(u:PU q),rh (alV 3 [.d nPQ,.d nPQ,.d nPQ] (m1H f z prB nnQ nnQ nnQ nnQ nnQ nnQ nnQ)) q u=q (.ptr 3 1 0 3) (m1H f z prB (1,.vars [.d nPQ,.d nPQ,.d nPQ]) nnQ nnQ nnQ nnQ nnQ nnQ):=fun _ _=>rfl
 have s3:∀(q:kkQ)(u:PU q),rh (stD (m1H f z prB (1,.vars [.d nPQ,.d nPQ,.d nPQ]) nnQ nnQ nnQ nnQ nnQ nnQ) 3 (.ptr 3 1 0 3) (.agg [.ref 2 1 0 3 3 3,.d nPQ,.d nPQ])) q u=q .junk (m0K f z 0):=fun _ _=>rfl
 have r0:ld1 (m0K f z 0) (.ptr 0 1 0 68)=some (.d (.int .u8 (f 0))):=by rw[<-k0];exact Uu aa
 have r0':=(mu _ _ _ _ _).symm.trans r0;have cc:(ccC f (dR f)).length=dR f*1:=by simp[ccC]
 have cl:(llC f (dR f-1)).length=(dR f-1)*1:=by simp[llC]
 obtain⟨v6,hv6⟩:∃v,v=tI.v (dR f) (ccC f (dR f)):=⟨_,rfl⟩;obtain⟨v9,hv9⟩:∃v,v=Dc.v (dR f-1) (llC f (dR f-1)):=⟨_,rfl⟩;have k6:okV v6=true:=by rw[hv6];obtain⟨m,hm⟩:∃m,dR f=m+1:=⟨dR f-1,aa⟩;rw[hm];rfl
 have k9:okV v9=true:=by rw[hv9];cases(dR f-1)<;>rfl
 obtain⟨s6,hs6⟩:∃s,s=tI.b (dR f) (ccC f (dR f)):=⟨_,rfl⟩;obtain⟨s9,hs9⟩:∃s,s=Dc.b (dR f-1) (llC f (dR f-1)):=⟨_,rfl⟩;have e3:wB f (dR f) (dR f-1)=(1,.vars [.ref 2 1 0 3 3 3,v6,v9]):=by rw[hv6,hv9];rfl
 have t2:∀x s6 s9,toD (m1H f x prB (1,.vars [.ref 2 1 0 3 3 3,v6,v9]) nnQ nnQ s6 nnQ nnQ s9) (.ref 2 1 0 3 3 3)=some (row [2,3,5],m1H f x (1,.data 1 [di 2,di 3,di 5] true true) (1,.vars [.ref 2 1 0 3 3 3,v6,v9]) nnQ nnQ s6 nnQ nnQ s9):=fun _ _ _=>rfl
 have t6:∀x y s9,∃s6',toD (m1H f x y (1,.vars [.ref 2 1 0 3 3 3,v6,v9]) nnQ nnQ s6 nnQ nnQ s9) v6=some (.sl (dR f) (ccC f (dR f)),m1H f x y (1,.vars [.ref 2 1 0 3 3 3,v6,v9]) nnQ nnQ s6' nnQ nnQ s9):=fun x y s9=>by
  obtain⟨fr,td⟩:=oA tI (h:=m1H f x y (1,.vars [.ref 2 1 0 3 3 3,v6,v9]) nnQ nnQ s6 nnQ nnQ s9) (L:=dR f) (c:=ccC f (dR f)) (by rw[hs6];rfl) cc;rw[if_neg aa,<-hv6]at td;exact⟨_,td⟩
 have t9:∀x y s6,∃s9',toD (m1H f x y (1,.vars [.ref 2 1 0 3 3 3,v6,v9]) nnQ nnQ s6 nnQ nnQ s9) v9=some (.sl (dR f-1) (llC f (dR f-1)),m1H f x y (1,.vars [.ref 2 1 0 3 3 3,v6,v9]) nnQ nnQ s6 nnQ nnQ s9'):=fun x y s6=>by
  obtain⟨fr,td⟩:=oA Dc (h:=m1H f x y (1,.vars [.ref 2 1 0 3 3 3,v6,v9]) nnQ nnQ s6 nnQ nnQ s9) (L:=dR f-1) (c:=llC f (dR f-1)) (by rw[hs9];rfl) cl;rw[<-hv9]at td;by_cases h:dR f-1=0
  .grind
  .rw[if_neg h]at td;exact⟨_,td⟩
 have key:∀x:Nat×Bk,out (.agg (wkC [2,3,5] (oO f) (tZ f))) (.agg [.ref 2 1 0 3 3 3,v6,v9]) (m1H f x prB (1,.vars [.ref 2 1 0 3 3 3,v6,v9]) nnQ nnQ s6 nnQ nnQ s9):=fun x=>by
  obtain⟨s6',h6⟩:=t6 x (1,.data 1 [di 2,di 3,di 5] true true) s9;obtain⟨s9',h9⟩:=t9 x (1,.data 1 [di 2,di 3,di 5] true true) s6'
  have ec:V.d (.sl (dR f) (ccC f (dR f)))=lst aA (oO f):=by
   simp only[lst,oO,List.length_map,Y0,Yy];rfl
  have el:V.d (.sl (dR f-1) (llC f (dR f-1)))=lst lkD (tZ f):=by
   simp only[lst,tZ,List.length_map,Y0,Yy];rfl
  have sv:∀(v:V)(H H':Hp)(d:D),((∃y,v=.d y)∨∃s e o l c t,v=.ref s e o l c t)->toD H v=some (d,H')->bJ H v=some (.d d,H'):=fun v H H' d hv ht=>by
   rcases hv with⟨y,rfl⟩|⟨s,e,o,l,c,t,rfl⟩
   .simp only[toD,Z9,Z5]at ht
    simp_all
   grind[bJ]
  have e:=UH (sv _ _ _ _ (.inr ⟨_,_,_,_,_,_,rfl⟩) (t2 x s6 s9)) (sv v6 _ _ _ (by rw[hv6];exact pU ..) h6) (sv v9 _ _ _ (by rw[hv9];exact pU ..) h9);rw[ec,el]at e;exact e
 have main:=U8 P (z:=z) hN.2 (fun c=>by rw[hz];rfl) (exK [(Exit.exit 0,fun l12 h=>
  bnd (ldA h 3 (.ptr 3 1 0 3)) fun v13=>
  stD h 3 (.ptr 1 1 0 3) v13 fun _ h=>
  bnd (ldA h 3 (.ptr 1 1 0 3)) fun v15=>
  out (.agg (wkC [2,3,5] (oO f) (tZ f))) v15 h)]) (by
  have eH:m0K f z (dR f)=m1H f z prB (1,.vars [.ref 2 1 0 3 3 3,v6,v9]) nnQ nnQ s6 nnQ nnQ s9:=by
   unfold m0K;rw[e3,hs6,hs9]
  rw[eH];have l3:ldA (m1H f z prB (1,.vars [.ref 2 1 0 3 3 3,v6,v9]) nnQ nnQ s6 nnQ nnQ s9) 3 (.ptr 3 1 0 3)=some (.agg [.ref 2 1 0 3 3 3,v6,v9]):=rfl
  have sd:st (m1H f z prB (1,.vars [.ref 2 1 0 3 3 3,v6,v9]) nnQ nnQ s6 nnQ nnQ s9) 3 (.ptr 1 1 0 3) (.agg [.ref 2 1 0 3 3 3,v6,v9])=some (m1H f (1,.vars [.ref 2 1 0 3 3 3,v6,v9]) prB (1,.vars [.ref 2 1 0 3 3 3,v6,v9]) nnQ nnQ s6 nnQ nnQ s9):=by
   have hg:aw (m1H f z prB (1,.vars [.ref 2 1 0 3 3 3,v6,v9]) nnQ nnQ s6 nnQ nnQ s9) 1 1=.vars [.d nPQ,.d nPQ,.d nPQ]:=by rw[hz];rfl
   have ha:([V.ref 2 1 0 3 3 3,v6,v9].all okV)=true:=by simp only[List.all_cons,V3,k6,k9,aay,Y4]
   show(if([V.ref 2 1 0 3 3 3,v6,v9]:LwQ).length=3 then sto _ 1 1 0 3 [V.ref 2 1 0 3 3 3,v6,v9]else none)=_
   rw[if_pos (show([V.ref 2 1 0 3 3 3,v6,v9]:LwQ).length=3 from rfl)];unfold sto;rw[hg];simp only[];rw[if_pos ⟨rfl,af,ha⟩];rfl
  have l1:ldA (m1H f (1,.vars [.ref 2 1 0 3 3 3,v6,v9]) prB (1,.vars [.ref 2 1 0 3 3 3,v6,v9]) nnQ nnQ s6 nnQ nnQ s9) 3 (.ptr 1 1 0 3)=some (.agg [.ref 2 1 0 3 3 3,v6,v9]):=rfl
  grind[iP,AW,stD]) (dR f) 0 aa
 simp(disch:=try exact ag)[iw,bx,a1,l2,a3,s3,r0,r0',tm,en];exact main
theorem VV(x:Q):CP Y F.nJ [.agg (qT x)] (.agg (qT ((x.1.natAbs:Nat),x.2))):=by
 refine Fs ?_;have ab:=DW x.1;have e:itoa ((x.1.natAbs:Nat):Int)=ai x.1.natAbs:=by simp[itoa]
 have eq1:qT ((x.1.natAbs:Nat),x.2)=[S (ai x.1.natAbs),S (ai x.2)]:=by simp only[qT,e]
 rw[eq1];simp[nJ,qT];refine cd ab ?_;simp;simp[kX]
def plC(f:Nat->Int):LwQ:=(List.range 120).map fun j=>.d (plD f j)
def plZ(f:Nat->Int):Nat×Bk:=(1,.vars (plC f))
theorem afE(hj:j<120):ld1 (plZ f::H) (.ptr 0 1 j 120)=some (.d (plD f j)):=by grind[aw,plZ,plC,ld1]
theorem IY(hj:j+m<=120):ldA (plZ f::H) m (.ptr 0 1 j 120)=some (.agg ((List.range m).map fun i=>.d (plD f (j+i)))):=by grind[aw,plZ,plC,ldA,Hv]
def cnF(f:Nat->Int)(i:Nat):Nat:=1+(f (68+i)).toNat%3
def cdF(f:Nat->Int)(i:Nat):LLQ:=(List.range (cnF f i)).map fun k=>rwF f (73+i*9+k*3)
def wu:Acc:=⟨4,0,1,.none⟩
def A1:Acc:=⟨5,0,1,.none⟩
def m2H(f:Nat->Int)(s1 s2 s3 s4 s5:Nat×Bk):Hp:=[plZ f,s1,s2,s3,s4,s5]
def cdC(f:Nat->Int)(i n:Nat):LdQ:=(List.range n).map fun k=>row (rwF f (73+i*9+k*3))
theorem XO(f:Nat->Int)(i n:Nat):cdC f i (n+1)=cdC f i n++[row (rwF f (73+i*9+n*3))]:=by simp[cdC,Y3]
theorem PR(f:Nat->Int)(clr:LnQ):offB clr (plZ f).2=true:=by
 have:∀(l:LnQ),dT clr (l.map fun j=>V.d (plD f j))=true:=fun l=>by
  induction l with
  |nil=>rfl
  |cons x l ih=>trivial
 rfl
theorem XA(f:Nat->Int)(i:Nat):1<=cnF f i∧cnF f i<=3:=by grind[cnF]
theorem ad0{f:Nat->Int}(P:GW f){i:Nat}(hi:i<5){s1 s2 s5:Nat×Bk}(b1:offB [3] s1.2=true)(b2:offB [3] s2.2=true)(b5:offB [3] s5.2=true)
  (K:KL) (hK:K (.exit 2) [wu.v (cnF f i) (cdC f i (cnF f i))] (m2H f s1 s2 nnQ (wu.b (cnF f i) (cdC f i (cnF f i))) s5)) :
  ∀(m k:Nat),k+m=cnF f i ->
  lp (jR (CX Y) (.ptr 0 1 0 120) (I i)) [3] (m2H f s1 s2 nnQ nnQ s5) [wu.v k (cdC f i k),I k] (m2H f s1 s2 nnQ (wu.b k (cdC f i k)) s5) K:=by
 have k1:plD f (68+i)=.int .u8 (f (68+i)):=by unfold plD;rw[tG aa]
 have q1:=P.u (68+i) aa (tG aa)
 have ra:∀s1 s2 s3 s4 s5,ld1 (m2H f s1 s2 s3 s4 s5) (.ptr 0 1 (68+i) 120)=some (.d (.int .u8 (f (68+i)))):=fun s1 s2 s3 s4 s5=>by
  rw[<-k1];exact afE aa
 have ra':=fun s1 s2 s3 s4 s5=>(mu _ _ _ _ _).symm.trans (ra s1 s2 s3 s4 s5)
 have tm5:(i:Int).tmod 5=(i:Int):=by rw[Zx aa,Int.emod_eq_of_lt aa aa]
 have tm:(f (68+i)).tmod 3=(f (68+i))%3:=Zx q1.1;have en:1+(f (68+i))%3=((cnF f i:Nat):Int):=by unfold cnF;omega
 have q1':0<=f (68+i)%3∧f (68+i)%3<=2:=aa;have g5:(i:Int)<5:=aa;intro m
 induction m with
 | zero=>
  intro k hk;have ek:cnF f i=k:=aa;rw[ek]at hK en;refine aj ?_;simp(disch:=try exact ag)[jR,tm5,g5,ra,ra',tm,en];exact hK
 | succ m ihm=>
  intro k hk;obtain⟨h1,h3⟩:=XA f i;have ih:=ihm (k+1) aa;rw[XO]at ih;obtain⟨j,hj⟩:=nmQ (73+i*9+k*3);have hjl:j+3<=118:=aa;have k0:plD f j=.int .i8 (f j):=by unfold plD;rw[xo aa]
  have k1:plD f (j+1)=.int .i8 (f (j+1)):=by unfold plD;rw[xo aa]
  have k2:plD f (j+2)=.int .i8 (f (j+2)):=by unfold plD;rw[xo aa]
  have q0:=P.s j aa (xo aa);have q1:=P.s (j+1) aa (xo aa);have q2:=P.s (j+2) aa (xo aa)
  have r1:ldA (m2H f s1 s2 nnQ (wu.b k (cdC f i k)) s5) 3 (.ptr 0 1 j 120)=some (.agg [.d (.int .i8 (f j)),.d (.int .i8 (f (j+1))),.d (.int .i8 (f (j+2)))]):=by
   have:=IY (f:=f) (H:=[s1,s2,nnQ,wu.b k (cdC f i k),s5]) (j:=j) (m:=3) aa;rw[<-k0,<-k1,<-k2];exact this
  have r1':=(xn _ _ _ _ _ _).symm.trans r1;have c1:(cdC f i k).length=k*1:=by simp[cdC]
  have g:(k:Int)<cnF f i:=aa;have gk3:(k:Int)<3:=aa;obtain⟨x,hx⟩:=nmQ (f j);obtain⟨y,hy⟩:=nmQ (f (j+1));obtain⟨z,hz⟩:=nmQ (f (j+2));have er:rwF f j=[x.tmod 9,y.tmod 9,z.tmod 9]:=by rw[hx,hy,hz];rfl
  rw[<-hj,er]at ih;rw[<-hx,<-hy,<-hz]at r1 r1';rw[<-hx]at q0;rw[<-hy]at q1;rw[<-hz]at q2;obtain⟨s4,hs4⟩:∃s,s=wu.b k (cdC f i k):=⟨_,rfl⟩;obtain⟨v4,hv4⟩:∃s,s=wu.v k (cdC f i k):=⟨_,rfl⟩
  have fin:∀(s3:Nat×Bk)(q:kkQ)(u:PU q),q (wu.v (k+1) (cdC f i k++[row [x.tmod 9,y.tmod 9,z.tmod 9]])) (m2H f s1 s2 s3 (wu.b (k+1) (cdC f i k++[row [x.tmod 9,y.tmod 9,z.tmod 9]])) s5) ->
    rh (apV false 4 1 24 v4 (.d (.sl 1 [row [x.tmod 9,y.tmod 9,z.tmod 9]])) (m2H f s1 s2 s3 s4 s5)) q u:=fun s3 q u hq=>by
   rw[hs4,hv4];exact hO wu (L:=k) (k:=1) (cells:=cdC f i k) (cs:=[row [x.tmod 9,y.tmod 9,z.tmod 9]]) aa rfl c1 rfl rfl (fun t e=>by cases e) aa ae hq
  rw[<-hs4]at r1 r1' ⊢;rw[<-hv4];have al:∀(q:kkQ)(u:PU q),rh (alD 3 1 [.int .i8 0,.int .i8 0,.int .i8 0] (m2H f s1 s2 nnQ s4 s5)) q u=q (.ptr 3 1 0 3) (m2H f s1 s2 (1,.data 1 [.int .i8 0,.int .i8 0,.int .i8 0] true false) s4 s5):=fun _ _=>rfl
  have sd:∀(q:kkQ)(u:PU q),rh (stD (m2H f s1 s2 (1,.data 1 [.int .i8 0,.int .i8 0,.int .i8 0] true false) s4 s5) 3 (.ptr 3 1 0 3) (.agg [.d (.int .i8 x),.d (.int .i8 y),.d (.int .i8 z)])) q u=q .junk (m2H f s1 s2 (1,.data 1 [.int .i8 x,.int .i8 y,.int .i8 z] true false) s4 s5):=fun _ _=>rfl
  have t0:ld1 (m2H f s1 s2 (1,.data 1 [.int .i8 x,.int .i8 y,.int .i8 z] true false) s4 s5) (.ptr 3 1 0 3)=some (.d (.int .i8 x)):=rfl;have t1:ld1 (m2H f s1 s2 (1,.data 1 [.int .i8 x,.int .i8 y,.int .i8 z] true false) s4 s5) (.ptr 3 1 1 3)=some (.d (.int .i8 y)):=rfl;have t2:ld1 (m2H f s1 s2 (1,.data 1 [.int .i8 x,.int .i8 y,.int .i8 z] true false) s4 s5) (.ptr 3 1 2 3)=some (.d (.int .i8 z)):=rfl
  have t0':=(mu _ _ _ _ _).symm.trans t0;have t1':=(mu _ _ _ _ _).symm.trans t1;have t2':=(mu _ _ _ _ _).symm.trans t2
  have li3:∀H,cO 3 [D.int IntKind.i64 0] [(0,I (x.tmod 9)),(1,I (y.tmod 9)),(2,I (z.tmod 9))] H=some ([di (x.tmod 9),di (y.tmod 9),di (z.tmod 9)],H):=fun H=>by
   rfl
  have li1:∀H,cO 1 [nPQ] [(0,.d (.sl 3 [di (x.tmod 9),di (y.tmod 9),di (z.tmod 9)]))] H=some ([row [x.tmod 9,y.tmod 9,z.tmod 9]],H):=fun H=>by
   rfl
  refine aj ?_;simp(disch:=try exact ag)[jR,tm5,g,g5,gk3,ra,ra',tm,en,<-hj,r1,r1',al,sd,t0,t0',t1,t1',t2,t2',li3,li1];refine fin _ _ .mk ?_;have g2:biI .add (I k) (.d (.int .i64 1))=some (I ((k+1:Nat):Int)):=wE aa
  show bnd _ _
  rw[g2];have o4:∀L c,offB [3] (wu.b L c).2=true:=fun L c=>fO _ _ _ _ rfl
  have o4':∀L c,kH [3] (wu.v L c)=true:=fun L c=>oe _ _ _ _ rfl
  refine⟨?_,?_⟩
  .simp only[clean,dT,o4',m2H,jm,PR,b1,b2,b5,o4,mZ,Y4,Zg,X1];rfl
  trivial
def wF(f:Nat->Int):Q:=(((frq (f 118) (f 119).toNat).1.natAbs:Nat),(frq (f 118) (f 119).toNat).2)
def adF(f:Nat->Int):Ad where
 p:=[2,3,5]
 ch:=oO f
 lk:=tZ f
 cd:=(List.range (dR f)).map (cdF f)
 w:=wF f
def ccD(f:Nat->Int)(n:Nat):LdQ:=(List.range n).map fun i=>aA (cdF f i)
theorem XP(f:Nat->Int)(n:Nat):ccD f (n+1)=ccD f n++[aA (cdF f n)]:=by simp[ccD,Y3]
def adR(f:Nat->Int)(i:Nat):Nat×Bk:=(1,.vars [lst di [2,3,5],lst aA (oO f),lst lkD (tZ f),A1.v i (ccD f i),S (itoa (wF f).1),S (ai (wF f).2)])
theorem QR(f:Nat->Int)(h5:dw clr 5=true):offB clr (adR f i).2=true:=by
 have e1:kH clr (lst di [2,3,5])=true:=rfl;have e2:kH clr (lst aA (oO f))=true:=rfl;have e3:kH clr (lst lkD (tZ f))=true:=rfl
 simp_all[adR,offB,dT,mZ,oe,A1]
def m0H(f:Nat->Int)(z:Nat×Bk)(i:Nat):Hp:=m2H f z (adR f i) nnQ nnQ (A1.b i (ccD f i))
theorem abA(f:Nat->Int)(i:Nat):D.sl (cnF f i) (cdC f i (cnF f i))=aA (cdF f i):=by simp only[aA,cdF,List.length_map,Y0,Yy];rfl
theorem Oc(f:Nat->Int):1<=dR f∧dR f<=5:=by grind[dR]
theorem U5{f:Nat->Int}(P:GW f){z:Nat×Bk}(b1:∀c,offB c z.2=true)(K:KL)(hK:K (.exit 0) [] (m0H f z (dR f))) :
  ∀(m i:Nat),i+m=dR f ->
  lp (jS (CX Y) (.ptr 0 1 0 120) (.ptr 2 1 0 6)) [3,4] (m0H f z 0) [I i] (m0H f z i) K
 | 0,i,hi=>by
  have ei:dR f=i:=aa;rw[ei]at hK;have rc:ld1 (m0H f z i) (.ptr 2 1 1 6)=some (lst aA (oO f)):=rfl;have lc:bj (lst aA (oO f))=some (I i):=by rw[<-ei];simp[oO]
  refine aj ?_;simp[jS,rc,lc];exact hK
 | m+1,i,hi=>by
  obtain⟨c1,c5⟩:=Oc f;obtain⟨n0,n3⟩:=XA f i;have ih:=U5 P b1 K hK m (i+1) aa;have hi5:i<5:=aa;have rc:ld1 (m0H f z i) (.ptr 2 1 1 6)=some (lst aA (oO f)):=rfl;have lc:bj (lst aA (oO f))=some (I (dR f)):=by simp[oO]
  have g:(i:Int)<dR f:=aa;obtain⟨s5,hs5⟩:∃s,s=A1.b i (ccD f i):=⟨_,rfl⟩;obtain⟨v5,hv5⟩:∃s,s=A1.v i (ccD f i):=⟨_,rfl⟩;obtain⟨s2,hs2⟩:∃s,s=adR f i:=⟨_,rfl⟩;have eH:m0H f z i=m2H f z s2 nnQ nnQ s5:=by rw[hs2,hs5];rfl
  have l1:=fun K hK=>ad0 P hi5 (s1:=z) (s2:=s2) (s5:=s5) (b1 _) (by rw[hs2];exact QR f rfl) (by rw[hs5];exact fO _ _ _ _ rfl) K hK (cnF f i) 0 aa
  have c4:(cdC f i (cnF f i)).length=cnF f i*1:=by simp[cdC]
  obtain⟨v4,hv4⟩:∃v,v=wu.v (cnF f i) (cdC f i (cnF f i)):=⟨_,rfl⟩;obtain⟨s4,hs4⟩:∃v,v=wu.b (cnF f i) (cdC f i (cnF f i)):=⟨_,rfl⟩;rw[<-hv4,<-hs4]at l1;obtain⟨fr,td⟩:=oA wu (h:=m2H f z s2 nnQ s4 s5) (L:=cnF f i) (c:=cdC f i (cnF f i)) (by rw[hs4];rfl) c4;rw[if_neg aa,abA,<-hv4]at td
  obtain⟨s4',hs4'⟩:∃s:Nat×Bk,s=(wu.e+1,.data wu.n (cdC f i (cnF f i)) false fr):=⟨_,rfl⟩;have td':toD (m2H f z s2 nnQ s4 s5) v4=some (aA (cdF f i),m2H f z s2 nnQ s4' s5):=by rw[td,hs4'];rfl
  have li4:=yZ td' (by simp_all[pU]);have r3:ld1 (m2H f z s2 nnQ s4 s5) (.ptr 2 1 3 6)=some v5:=by rw[hs2,hv5];rfl
  have r3':=(mu _ _ _ _ _).symm.trans r3;have cc:(ccD f i).length=i*1:=by simp[ccD]
  obtain⟨v5',hv5'⟩:∃v,v=A1.v (i+1) (ccD f (i+1)):=⟨_,rfl⟩;obtain⟨s5',hs5'⟩:∃v,v=A1.b (i+1) (ccD f (i+1)):=⟨_,rfl⟩;obtain⟨s2',hs2'⟩:∃s,s=adR f (i+1):=⟨_,rfl⟩
  have ap5:∀(q:kkQ)(u:PU q),q v5' (m2H f z s2 nnQ s4' s5')->rh (apV false 5 1 24 v5 (.d (.sl 1 [aA (cdF f i)])) (m2H f z s2 nnQ s4' s5)) q u:=fun q u hq=>by
   rw[hv5,hs5];refine hO A1 (L:=i) (k:=1) (cells:=ccD f i) (cs:=[aA (cdF f i)]) aa rfl cc rfl rfl (fun t e=>by cases e) aa ae ?_;rw[<-XP,<-hv5'];rw[hs5']at hq;exact hq
  have sd5:∀(q:kkQ)(u:PU q),rh (stD (m2H f z s2 nnQ s4' s5') 1 (.ptr 2 1 3 6) v5') q u=q .junk (m2H f z s2' nnQ s4' s5'):=fun q u=>by
   rw[hs2,hs2',hv5'];rfl
  have g2:biI .add (I i) (.d (.int .i64 1))=some (I ((i+1:Nat):Int)):=wE aa;refine aj ?_;simp[jS,rc,lc,g];rw[eH];refine lo (l1 _ ?_);simp[r3,r3',li4];refine ap5 _ .mk ?_;simp(disch:=try exact ag)[sd5];have o2:offB [3,4] s2'.2=true:=by rw[hs2'];exact QR f rfl
  have o5:offB [3,4] s5'.2=true:=by rw[hs5'];exact fO _ _ _ _ rfl
  refine⟨?_,?_⟩
  .simp only[clean,dT,m2H,jm,PR,b1,o2,o5,mZ,Y4,Zg,X1];rfl
  .have e0:∀s4,au [3,4] 0 (m0H f z 0) (m2H f z s2' nnQ s4 s5')=m2H f z s2' nnQ nnQ s5':=fun s=>rfl
   rw[e0,hs2',hs5'];exact ih
theorem aeh(a:Int)(b:Nat):okQ (frq a b)∧(frq a b).1.natAbs<=40∧(frq a b).2<=12:=by
 have hd:=ME b;have r1 : -41<a.tmod 41:=Int.lt_tmod_of_pos a ae;have r2:=Wn a (b:=41) ae;refine⟨aaR aa,?_,?_⟩
 .unfold frq vW;rw[if_neg aa]
  show(a.tmod 41/(Nat.gcd _ _:Nat):Int).natAbs<=40
  grind[Int.natAbs_ediv_le_natAbs]
 .unfold frq vW;rw[if_neg aa]
  show(uH b).natAbs/_<=12
  exact Zu (Yu _ _) aa
theorem UG{v:V}{x:D}{a b c d e:D}(ha:norm a=a)(hb:norm b=b)(hc:norm c=c)(hd:norm d=d)(he:norm e=e)(hs:bJ h v=some (.d x,h1)):
  out (.agg [.d a,.d b,.d c,.d x,.d d,.d e]) (.agg [.d a,.d b,.d c,v,.d d,.d e]) h:=
 ⟨h1,by simp_all[bJ,aS]⟩
theorem RP(P:GW f):CP Y F.iu [.agg (plC f)] (.agg (adC (adF f))):=by
 refine yl ?_;obtain⟨c1,c5⟩:=Oc f;have mk:=RQ P;have k118:plD f 118=.int .i8 (f 118):=by unfold plD;rw[xo aa]
 have k119:plD f 119=.int .u8 (f 119):=by unfold plD;rw[tG aa]
 have q118:=P.s 118 aa (xo aa);have q119:=P.u 119 aa (tG aa);obtain⟨b,hb⟩:∃b:Nat,f 119=b:=⟨(f 119).toNat,aa⟩;have fr:=Gx (a:=f 118) (b:=b) q118 aa;have fa:=VV (frq (f 118) b);have ew:wF f=((((frq (f 118) b).1.natAbs:Nat):Int),(frq (f 118) b).2):=by unfold wF;rw[hb,Int.toNat_natCast]
 rw[<-ew]at fa;obtain⟨z,hz⟩:∃z:Nat×Bk,z=(1,.vars [.d nPQ,.d nPQ,.d nPQ,.d nPQ,.d (.str []),.d (.str [])]):=⟨_,rfl⟩
 have bx:∀(q:kkQ)(u:PU q),rh (cQ 0 (.agg (plC f)) [nnQ,nnQ,nnQ,nnQ,nnQ,nnQ]) q u=q (.ptr 0 1 0 120) [plZ f,nnQ,nnQ,nnQ,nnQ,nnQ]:=fun q u=>by
  have hl:(plC f).length=120:=by simp[plC]
  rfl
 have a1:∀(q:kkQ)(u:PU q),rh (alV 1 [.d nPQ,.d nPQ,.d nPQ,.d nPQ,.d (.str []),.d (.str [])] [plZ f,nnQ,nnQ,nnQ,nnQ,nnQ]) q u=q (.ptr 1 1 0 6) (m2H f z nnQ nnQ nnQ nnQ):=fun q u=>by rw[hz];rfl
 have l68:ldA (m2H f z nnQ nnQ nnQ nnQ) 68 (.ptr 0 1 0 120)=some (.agg (Lq f)):=by
  have:=IY (f:=f) (H:=[z,nnQ,nnQ,nnQ,nnQ]) (j:=0) (m:=68) aa;simp only[Zp]at this;exact this
 have l2:ldA (m2H f z nnQ nnQ nnQ nnQ) 2 (.ptr 0 1 118 120)=some (.agg [.d (.int .i8 (f 118)),.d (.int .u8 b)]):=by
  have:=IY (f:=f) (H:=[z,nnQ,nnQ,nnQ,nnQ]) (j:=118) (m:=2) aa;rw[<-hb,<-k118,<-k119];exact this
 have l68':=(xn _ _ _ _ _ _).symm.trans l68;have l2':=(xn _ _ _ _ _ _).symm.trans l2
 have bl:bld [(0,3),(3,1),(4,2)] [nPQ,nPQ,nPQ,nPQ,.str [],.str []] [(0,.agg (wkC [2,3,5] (oO f) (tZ f))),(2,.agg (qT (wF f)))]=some (.agg [lst di [2,3,5],lst aA (oO f),lst lkD (tZ f),.d nPQ,S (itoa (wF f).1),S (ai (wF f).2)]):=rfl
 have a2:∀(q:kkQ)(u:PU q),rh (alV 2 [.d nPQ,.d nPQ,.d nPQ,.d nPQ,.d (.str []),.d (.str [])] (m2H f z nnQ nnQ nnQ nnQ)) q u=q (.ptr 2 1 0 6) (m2H f z (1,.vars [.d nPQ,.d nPQ,.d nPQ,.d nPQ,.d (.str []),.d (.str [])]) nnQ nnQ nnQ):=fun _ _=>rfl
 have s2:∀(q:kkQ)(u:PU q),rh (stD (m2H f z (1,.vars [.d nPQ,.d nPQ,.d nPQ,.d nPQ,.d (.str []),.d (.str [])]) nnQ nnQ nnQ) 6 (.ptr 2 1 0 6) (.agg [lst di [2,3,5],lst aA (oO f),lst lkD (tZ f),.d nPQ,S (itoa (wF f).1),S (ai (wF f).2)])) q u=q .junk (m0H f z 0):=fun _ _=>rfl
 have cc:(ccD f (dR f)).length=dR f*1:=by simp[ccD]
 obtain⟨v5,hv5⟩:∃v,v=A1.v (dR f) (ccD f (dR f)):=⟨_,rfl⟩;obtain⟨s5,hs5⟩:∃s,s=A1.b (dR f) (ccD f (dR f)):=⟨_,rfl⟩;have k5:okV v5=true:=by rw[hv5];obtain⟨m,hm⟩:∃m,dR f=m+1:=⟨dR f-1,aa⟩;rw[hm];rfl
 have main:=U5 P (z:=z) (fun c=>by rw[hz];rfl) (exK [(Exit.exit 0,fun l13 h=>
  bnd (ldA h 6 (.ptr 2 1 0 6)) fun v14=>
  stD h 6 (.ptr 1 1 0 6) v14 fun _ h=>
  bnd (ldA h 6 (.ptr 1 1 0 6)) fun v16=>
  out (.agg (adC (adF f))) v16 h)]) (by
  obtain⟨A,hA⟩:∃A:LwQ,A=[lst di [2,3,5],lst aA (oO f),lst lkD (tZ f),v5,S (itoa (wF f).1),S (ai (wF f).2)]:=⟨_,rfl⟩
  have eH:m0H f z (dR f)=m2H f z (1,.vars A) nnQ nnQ s5:=by
   unfold m0H adR;rw[hA,hv5,hs5]
  rw[eH];have hl:A.length=6:=by rw[hA];rfl
  have ha:A.all okV=true:=by rw[hA];simp only[List.all_cons,V3,k5,Y4];rfl
  have l6:∀x,ldA (m2H f x (1,.vars A) nnQ nnQ s5) 6 (.ptr 2 1 0 6)=some (.agg A):=fun x=>by rw[hA];rfl
  have sd:st (m2H f z (1,.vars A) nnQ nnQ s5) 6 (.ptr 1 1 0 6) (.agg A)=some (m2H f (1,.vars A) (1,.vars A) nnQ nnQ s5):=by
   have hg:aw (m2H f z (1,.vars A) nnQ nnQ s5) 1 1=.vars [.d nPQ,.d nPQ,.d nPQ,.d nPQ,.d (.str []),.d (.str [])]:=by rw[hz];rfl
   show(if A.length=6 then sto _ 1 1 0 6 A else none)=_
   rw[if_pos hl];unfold sto;rw[hg];simp only[];rw[if_pos ⟨rfl,by grind,ha⟩];rw[hl];simp[bS,m2H]
  have l1:ldA (m2H f (1,.vars A) (1,.vars A) nnQ nnQ s5) 6 (.ptr 1 1 0 6)=some (.agg A):=by rw[hA];rfl
  simp only[iP,l6,AW,stD,sd,l1];obtain⟨fr5,td⟩:=oA A1 (h:=m2H f (1,.vars A) (1,.vars A) nnQ nnQ s5) (L:=dR f) (c:=ccD f (dR f)) (by rw[hs5];rfl) cc;rw[if_neg aa,<-hv5]at td
  have sv:bJ (m2H f (1,.vars A) (1,.vars A) nnQ nnQ s5) v5=some (.d (.sl (dR f) (ccD f (dR f))),(m2H f (1,.vars A) (1,.vars A) nnQ nnQ s5).set A1.s (A1.e+1,.data A1.n (ccD f (dR f)) false fr5)):=by
   obtain⟨m,hm⟩:∃m,dR f=m+1:=⟨dR f-1,aa⟩;have hr:∃s e o l c t,v5=.ref s e o l c t:=by rw[hv5,hm];exact⟨_,_,_,_,_,_,rfl⟩
   obtain⟨s,e,o,l,c,t,hr⟩:=hr;rw[hr]at td ⊢;simp only[bJ,td]
  have ec:V.d (.sl (dR f) (ccD f (dR f)))=lst aA (adF f).cd:=by
   simp only[lst,adF,List.length_map,Y0,Yy];rfl
  have o:=UG (a:=row [2,3,5]) (b:=.sl (oO f).length ((oO f).map aA)) (c:=.sl (tZ f).length ((tZ f).map lkD)) (d:=.str (itoa (wF f).1)) (e:=.str (ai (wF f).2)) rfl rfl rfl rfl rfl sv;rw[ec]at o;rw[hA];rw[hA]at o;exact o) (dR f) 0 aa
 simp[iu,bx,a1,l68,l68'];refine cd mk ?_ (by rfl);simp[l2,l2'];refine cd fr ?_;simp;refine cd fa ?_ (by rfl);simp[bl,a2,s2];exact main
theorem QI(f:Nat->Int)(i:Nat):(chF f i).length=ntF f i:=by simp[chF]
theorem aeI(P:GW f):cI (adF f):=by
 obtain⟨c1,c5⟩:=Oc f;obtain⟨w1,w2,w3⟩:=aeh (f 118) (f 119).toNat
 have hch:∀c∈oO f,(1<=c.length∧c.length<=3)∧∀r∈c,r.length=3∧bdR 8 r:=fun c hc=>by
  grind[oO,HB,chF,TH]
 have hcd:∀c∈(adF f).cd,(1<=c.length∧c.length<=3)∧∀r∈c,r.length=3∧bdR 8 r:=fun c hc=>by
  grind[adF,XA,cdF,TH]
 have hlk:∀l∈tZ f,1<=l.length∧l.length<=2:=fun l hl=>by
  grind[tZ,P0,lkL]
 have lch:(oO f).length=dR f:=by simp[oO]
 have llk:(tZ f).length=dR f-1:=by simp[tZ]
 refine ⟨abc.hp,⟨by show(tZ f).length+1=(oO f).length;omega,by show(oO f).length<=64;omega,fun c hc=>(hch c hc).2,fun c hc=>by have:=(hch c hc).1;omega,fun l hl=>by have:=hlk l hl;omega,fun i hi=>?_⟩,fun l hl=>(hlk l hl).1,fun c hc=>(hch c hc).1.1,by show(oO f).length<=5;omega,
  by show((List.range (dR f)).map (cdF f)).length=(oO f).length;grind,fun l hl=>by grind,fun l hl=>(hcd l hl).2,⟨⟨w1.1,by show Nat.gcd (((frq (f 118) (f 119).toNat).1.natAbs:Nat):Int).natAbs _=1;rw[Int.natAbs_natCast];exact w1.2⟩,Int.natCast_nonneg _,by show(((frq (f 118) (f 119).toNat).1.natAbs:Nat):Int)<=1000;omega,by show(frq (f 118) (f 119).toNat).2<=1000;omega⟩⟩
 have hi':i<dR f-1:=by rw[<-llk];exact hi
 show(nth [] (tZ f) i).all (BJ (nth [] (oO f) i).length (nth [] (oO f) (i+1)).length)=true
 unfold tZ oO;rw[jH _ _ hi',jH _ _ (show i<dR f by omega),jH _ _ (show i+1<dR f by omega),QI,QI];refine Zv.2 fun x hx=>?_
 simp only[lkL,Zc,X6]at hx;obtain⟨k,hk,rfl⟩:=hx;have hk2:=(P0 f i).2;have n1:=HB f i;have n2:=HB f (i+1);have q1:=P.u (51+i*4+k*2) aa (tG aa);have q2:=P.u (51+i*4+k*2+1) aa (tG aa);refine LV.2 ⟨⟨Int.tmod_nonneg _ q1.1,Wn _ aa⟩,Int.tmod_nonneg _ q2.1,Wn _ aa⟩
theorem SC(f:Nat->Int):tE (adF f).p:=YK
section
variable{a:Ad}
structure Rd(a:Ad)(H:Hp)(s:Nat):Prop where
 l6:ldA H 6 (.ptr s 1 0 6)=some (.agg (adC a))
 l3:ldA H 3 (.ptr s 1 0 6)=some (.agg (wkC a.p a.ch a.lk))
 rl:ld1 H (.ptr s 1 2 6)=some (lst lkD a.lk)
 rc:ld1 H (.ptr s 1 3 6)=some (lst aA a.cd)
def chE:Bool->Int
 |true=>0
 |false=>3
theorem EQ(G:cI a){H:Hp}(R:Rd a H 1){c:LiQ}(hl:c.length=a.cd.length)(K:KL):∀(q d:LiQ),d++q=c ->
  K (.exit 0) [I (chE (tw a d.length q))] H ->
  lp (aB (CX Y) (lst di c) (.ptr 1 1 0 6)) [] H [I 0,I d.length] H K
 | [],d,hd,hK=>by
  have e:d.length=c.length:=by rw[<-hd];simp
  have lc:bj (lst di c)=some (I c.length):=rfl;refine aj ?_;simp[aB,e,lc];exact hK
 | z::q,d,hd,hK=>by
  have hll:c.length=d.length+(q.length+1):=by rw[<-hd];simp
  have h5:=G.five;have hcl:=G.cl;have lc:bj (lst di c)=some (I c.length):=rfl;have i1:∀h:Hp,ixV h 1 (lst di c) (I d.length)=some (.dptr (c.map di) d.length):=fun h=>aJ di _ h rfl aa
  have i2:∀h:Hp,ld1 h (.dptr (c.map di) d.length)=some (I z):=fun h=>by rw[aC di 0 c h aa,<-hd,bM];rfl
  have j1:∀h:Hp,ixV h 1 (lst aA a.cd) (I d.length)=some (.dptr (a.cd.map aA) d.length):=fun h=>aJ aA _ h rfl aa
  have j2:∀h:Hp,ld1 h (.dptr (a.cd.map aA) d.length)=some (mat (nth [] a.cd d.length)):=fun h=>aC aA [] a.cd h aa
  have lm:bj (mat (nth [] a.cd d.length))=some (I (nth [] a.cd d.length).length):=rfl;have rc:=R.rc;have rc':=(mu _ _ _ _ _).symm.trans rc;have g:(d.length:Int)<c.length:=aa;have e2:((d++[z]).length:Int)=(d.length:Int)+1:=af;have e3:(d++[z]).length=d.length+1:=af;have hre:au [] 0 H H=H:=aX 0 H H rfl
  have hke:tw a d.length (z::q)=(inC a d.length z&&tw a (d.length+1) q):=rfl;rw[hke]at hK
  have bad:inC a d.length z=false->lp (aB (CX Y) (lst di c) (.ptr 1 1 0 6)) [] H [I 3,I ((d.length:Int)+1)] H K:=fun hb=>by
   rw[hb,V9]at hK;refine aj ?_;by_cases g2:(d.length:Int)+1<c.length
   .simp[aB,lc,g2];exact hK
   .simp[aB,lc,g2];exact hK
  refine aj ?_;by_cases z0:z<0
  ·have hb:inC a d.length z=false:=by
    rw[Bool.eq_false_iff];intro h;have:=Jt.1 h;omega
   simp[aB,lc,g];refine aT ?_;simp[i1,i2,z0];refine aT ?_;simp(disch:=try exact ag)[hre]
   simp_all
  .by_cases z1:(nth [] a.cd d.length).length<=z
   ·have hb:inC a d.length z=false:=by
     rw[Bool.eq_false_iff];intro h;have:=Jt.1 h;omega
    simp[aB,lc,g];refine aT ?_;simp[i1,i2,z0,rc,rc',j1,j2,lm,z1];refine aT ?_;simp(disch:=try exact ag)[hre]
    simp_all
   .have hb:inC a d.length z=true:=Jt.2 aa;rw[hb,Zg,<-e3]at hK;have ih:=EQ G R hl K q (d++[z]) (by grind) hK;rw[e2]at ih;simp[aB,lc,g];refine aT ?_;simp[i1,i2,z0,rc,rc',j1,j2,lm,z1];refine aT ?_;simp(disch:=try exact ag)[hre];exact ih
theorem Jz(G:cI a){H:Hp}(R:Rd a H 1){c:LiQ}(hc:JN a c){S0:LLQ}(hS:S0=tL a 0 c)(K:KL)(hK:K (.exit 2) [] H):∀(q d:LiQ),d++q=c ->
  (∀k<q.length,nth [] S0 (d.length+k)=shR a (d.length+k) (nth 0 c (d.length+k)).toNat) ->
  lp (et (CX Y) (lst di c) (.ptr 1 1 0 6) (mat S0) (mat (iq a))) [] H [I d.length] H K
 | [],d,hd,_=>by
  have e:d.length=c.length:=by rw[<-hd];simp
  have hl:S0.length=c.length:=by rw[hS,Hh]
  have lc:bj (mat S0)=some (I S0.length):=rfl;refine aj ?_;simp[et,e,lc,hl];exact hK
 | z::q,d,hd,hq=>by
  have hll:c.length=d.length+(q.length+1):=by rw[<-hd];simp
  have h5:=G.five;have hcl:=G.cl;have hcc:=hc.1;have hl:S0.length=c.length:=by rw[hS,Hh]
  have lc:bj (mat S0)=some (I c.length):=by rw[<-hl];rfl
  obtain⟨m,rfl,hm⟩:=hc.at hd;have hz:nth 0 c d.length=(m:Int):=by rw[<-hd,bM]
  have e0:=hq 0 af;rw[Nat.add_zero,hz,Int.toNat_natCast]at e0;have i1:∀h:Hp,ixV h 1 (lst di c) (I d.length)=some (.dptr (c.map di) d.length):=fun h=>aJ di _ h rfl aa
  have i2:∀h:Hp,ld1 h (.dptr (c.map di) d.length)=some (I m):=fun h=>by rw[aC di 0 c h aa,hz];rfl
  have j1:∀h:Hp,ixV h 1 (mat S0) (I d.length)=some (.dptr (S0.map row) d.length):=fun h=>aJ row _ h rfl aa
  have j2:∀h:Hp,ld1 h (.dptr (S0.map row) d.length)=some (lst di (shR a d.length m)):=fun h=>by rw[aC row [] S0 h aa,e0];rfl
  have sh:=Ex G (i:=d.length) (k:=m) aa hm;have sm:=Rk (r:=shR a d.length m) (by rw[(G.shift (i:=d.length) (k:=m) aa hm).1];have:=(eh G.hp).1.2.1;omega);have e2:((d++[(m:Int)]).length:Int)=(d.length:Int)+1:=af
  have ih:=Jz G R hc hS K hK q (d++[(m:Int)]) (by grind) (fun k hk=>by
   have:=hq (k+1) (by grind)
   grind)
  rw[e2]at ih;have l6:=R.l6;have l6':=(xn _ _ _ _ _ _).symm.trans l6;have g:(d.length:Int)<c.length:=aa;have hre:au [] 0 H H=H:=aX 0 H H rfl;refine aj ?_;simp[et,lc,g,i1,i2,j1,j2,l6,l6'];refine cd sh ?_;simp;refine cd sm ?_;simp(disch:=try exact ag)[hre];exact ih
end
section
variable{a:Ad}
theorem EP(G:cI a){H:Hp}(R:Rd a H 1){c:LiQ}(hc:JN a c){i f t:Nat}(hi:i<a.lk.length)(hf:f<(nth [] a.cd i).length)(ht:t<(nth [] a.cd (i+1)).length)(cf:nth 0 c i=f)(ct:nth 0 c (i+1)=t)
  {M A B:List Mv} (hM:M.length<1000000) (K:KL) (hK:K (.exit 6) [I (A.length+(Jg i 0 (yv a i f t)).length:Nat)] H):∀(q l:List Lk)(D:List Mv),l++q=nth [] a.lk i->M=A++D++(Jg i l.length (q.map (pY a i f t))++B)->D++Jg i l.length (q.map (pY a i f t))=Jg i 0 (yv a i f t) ->
  lp (cw (CX Y) (lst di c) (.ptr 1 1 0 6) (qm mvC M) (mat (iq a)) (I i)) [] H [I (A.length+D.length:Nat),I l.length] H K
 | [],l,D,hl,hM2,hD=>by
  have e:l.length=(nth [] a.lk i).length:=by rw[<-hl];simp
  have j1:∀h:Hp,ixV h 1 (lst lkD a.lk) (I i)=some (.dptr (a.lk.map lkD) i):=fun h=>aJ lkD _ h rfl hi
  have j2:∀h:Hp,ld1 h (.dptr (a.lk.map lkD) i)=some (.d (lkD (nth [] a.lk i))):=fun h=>aC lkD [] a.lk h hi
  have rl:=R.rl;have rl':=(mu _ _ _ _ _).symm.trans rl;simp only[Xh,Jg,Y8]at hD;rw[<-hD]at hK;have lm:bj (.d (lkD (nth [] a.lk i)))=some (I l.length):=by rw[afW,e]
  refine aj ?_;simp[cw,rl,rl',j1,j2,lm];exact hK
 | x::q,l,D,hl,hM2,hD=>by
  have hll:(nth [] a.lk i).length=l.length+(q.length+1):=by rw[<-hl];simp
  have h5:=G.five;have hcl:=G.cl;have hlen:=G.wk.len;have hcc:=hc.1;have hls:=G.wk.ls _ (aQ (d:=[]) hi);have hz:nth (0,0) (nth [] a.lk i) l.length=x:=by rw[<-hl,bM]
  have mo:=Vg G hi hf ht (j:=l.length) aa;rw[hz]at mo;have mb:=G.move hi hf ht (pY a i f t x) (Wt (by rw[<-hl];simp));obtain⟨hin,hp0⟩:=eh G.hp;have h6:=hin.2.1;obtain⟨d,hd⟩:=nmQ (pY a i f t x);rw[<-hd]at mo mb;have iz:=R5 d aa;have sm:=Rk (r:=d) aa
  have j1:∀h:Hp,ixV h 1 (lst lkD a.lk) (I i)=some (.dptr (a.lk.map lkD) i):=fun h=>aJ lkD _ h rfl hi
  have j2:∀h:Hp,ld1 h (.dptr (a.lk.map lkD) i)=some (.d (lkD (nth [] a.lk i))):=fun h=>aC lkD [] a.lk h hi
  have c1:∀h:Hp,ixV h 1 (lst di c) (I i)=some (.dptr (c.map di) i):=fun h=>aJ di _ h rfl aa
  have c2:∀h:Hp,ld1 h (.dptr (c.map di) i)=some (I f):=fun h=>by rw[aC di 0 c h aa,cf];rfl
  have c3:∀h:Hp,ixV h 1 (lst di c) (I ((i:Int)+1))=some (.dptr (c.map di) (i+1)):=fun h=>aJ di _ h aa aa
  have c4:∀h:Hp,ld1 h (.dptr (c.map di) (i+1))=some (I t):=fun h=>by rw[aC di 0 c h aa,ct];rfl
  have rl:=R.rl;have rl':=(mu _ _ _ _ _).symm.trans rl;have l6:=R.l6;have l6':=(xn _ _ _ _ _ _).symm.trans l6;have lm:bj (.d (lkD (nth [] a.lk i)))=some (I (nth [] a.lk i).length):=afW _;have g:(l.length:Int)<(nth [] a.lk i).length:=aa;have e2:((l++[x]).length:Int)=(l.length:Int)+1:=af;have e3:(l++[x]).length=l.length+1:=af;have hre:au [] 0 H H=H:=aX 0 H H rfl
  simp only[Z2,Jg,<-hd]at hM2 hD;by_cases z:zrB d=true
  .rw[if_pos z,List.nil_append]at hM2 hD;have ih:=EP G R hc hi hf ht cf ct (A:=A) (B:=B) hM K hK q (l++[x]) D (by grind) (by grind) (by grind);rw[e2]at ih;refine aj ?_;simp[cw,rl,rl',j1,j2,lm,g];refine aT ?_;simp(disch:=try exact ag)[l6,l6',c1,c2,c3,c4];refine cd mo ?_;simp;refine cd iz ?_
   simp(disch:=try exact ag)[z,hre];exact ih
  .rw[if_neg z]at hM2 hD;have z':zrB d=false:=by simpa using z
   have ih:=EP G R hc hi hf ht cf ct (A:=A) (B:=B) hM K hK q (l++[x]) (D++[(i,l.length,d)]) (by grind) (by grind) (by grind);rw[e2]at ih;have hn:A.length+D.length<M.length:=by rw[hM2];simp
   have hnm:nth (0,0,[]) M (A.length+D.length)=(i,l.length,d):=by
    have:=bM (0,0,[]) (A++D) (i,l.length,d) (Jg i (l.length+1) (q.map (pY a i f t))++B);rw[Zm]at this;rw[hM2];simpa using this
   obtain⟨n,hnn⟩:=nmQ (A.length+D.length);rw[<-hnn]at hn hnm ⊢;have en:A.length+(D++[(i,l.length,d)]).length=n+1:=by simp;omega
   rw[en]at ih
   have m1:∀h:Hp,ixV h 3 (qm mvC M) (I n)=some (.dptr (M.flatMap mvC) (n*3)):=fun h=>by
    have:=ou mvC P7 M h (k:=.i64) (i:=(n:Int)) aa aa;trivial
   have m2:∀h:Hp,ld1 h (.dptr (M.flatMap mvC) (n*3))=some (I i):=fun h=>by
    have:=vH mvC P7 ((0,0,[]):Mv) M h (j:=n) (o:=0) (x:=di i) hn aa (by rw[hnm];rfl);exact this
   have m3:∀h:Hp,ld1 h (.dptr (M.flatMap mvC) (n*3+1))=some (I l.length):=fun h=>vH mvC P7 ((0,0,[]):Mv) M h (j:=n) (o:=1) (x:=di l.length) hn aa (by rw[hnm];rfl)
   have m4:∀h:Hp,ld1 h (.dptr (M.flatMap mvC) (n*3+2))=some (lst di d):=fun h=>vH mvC P7 ((0,0,[]):Mv) M h (j:=n) (o:=2) (x:=row d) hn aa (by rw[hnm];rfl)
   have lM:bj (qm mvC M)=some (I M.length):=rfl;have gn:¬(M.length:Int)<=n:=aa;have e5:((n+1:Nat):Int)=(n:Int)+1:=aa;rw[e5]at ih;refine aj ?_;simp[cw,rl,rl',j1,j2,lm,g];refine aT ?_;simp(disch:=try exact ag)[l6,l6',c1,c2,c3,c4];refine cd mo ?_;simp;refine cd iz ?_;simp[z',lM,gn,m1,m2,m3,m4];refine cd sm ?_
   simp(disch:=try exact ag)[hre];exact ih
theorem IA(G:cI a){H:Hp}(R:Rd a H 1){c:LiQ}(hc:JN a c){M:List Mv}(hM:M.length<1000000)(K:KL)(hK:K (.exit 4) [I M.length] H) :
  ∀(m i:Nat)(A:List Mv),i+m=a.lk.length->M=A++LJ a i (nth 0 c i).toNat (c.drop (i+1)) ->
  lp (dL (CX Y) (lst di c) (.ptr 1 1 0 6) (qm mvC M) (mat (iq a))) [] H [I A.length,I i] H K
 | 0,i,A,hi,hA=>by
  have h5:=G.five;have hcl:=G.cl;have hlen:=G.wk.len;have hcc:=hc.1;have ed:c.drop (i+1)=[]:=Xe aa;rw[ed]at hA;simp only[LJ,Y8]at hA;rw[hA]at hK;have rl:=R.rl;have rl':=(mu _ _ _ _ _).symm.trans rl;have ll:bj (lst lkD a.lk)=some (I i):=by rw[show bj (lst lkD a.lk)=some (I a.lk.length)from rfl,<-hi];rfl
  refine aj ?_;simp[dL,rl,rl',ll];exact hK
 | m+1,i,A,hi,hA=>by
  have h5:=G.five;have hcl:=G.cl;have hlen:=G.wk.len;have hcc:=hc.1;have hil:i<a.lk.length:=aa;obtain⟨p1,p2⟩:=hc.2 i aa;obtain⟨r1,r2⟩:=hc.2 (i+1) aa;obtain⟨f,hf⟩:∃f:Nat,nth 0 c i=f:=⟨(nth 0 c i).toNat,aa⟩;obtain⟨t,ht⟩:∃f:Nat,nth 0 c (i+1)=f:=⟨(nth 0 c (i+1)).toNat,aa⟩
  have ed:c.drop (i+1)=nth 0 c (i+1)::c.drop (i+1+1):=by rw[Z0 aa,aN _ _ _ aa]
  rw[ed,ht,hf]at hA;simp only[LJ,Int.toNat_natCast]at hA;have rl:=R.rl;have rl':=(mu _ _ _ _ _).symm.trans rl;have ll:bj (lst lkD a.lk)=some (I a.lk.length):=rfl;have g:(i:Int)<a.lk.length:=aa;have ih:=IA G R hc hM K hK m (i+1) (A++Jg i 0 (yv a i f t)) aa (by grind);have hre:au [] 0 H H=H:=aX 0 H H rfl
  have l3:=fun K hK=>EP G R hc hil (f:=f) (t:=t) aa aa hf ht (M:=M) (A:=A) (B:=LJ a (i+1) t (c.drop (i+1+1))) hM K hK (nth [] a.lk i) [] [] rfl (by grind[yv]) (by rfl)
  rw[Zm]at ih;refine aj ?_;simp[dL,rl,rl',ll,g];refine lo (l3 _ ?_);simp(disch:=try exact ag)[hre];exact ih
end
theorem yk{a:Ad}(G:cI a):∀(q:LiQ)(k pr:Nat),k+q.length<=a.lk.length->(LJ a k pr q).length<=12*q.length
 |[],_,_,_=>by simp[LJ]
 | z::q,k,pr,h=>by
  simp only[List.length_cons]at h;have ih:=yk G q (k+1) z.toNat aa;have h1:=LI k (yv a k pr z.toNat) 0;have hls:=G.wk.ls _ (aQ (d:=[]) (show k<a.lk.length by omega));have e:(yv a k pr z.toNat).length=(nth [] a.lk k).length:=by simp[yv]
  grind[LJ]
theorem xt(a:Ad):∀(c:LiQ)(j k:Nat),k<c.length->nth [] (tL a j c) k=shR a (j+k) (nth 0 c k).toNat
 |[],_,_,h=>by simp at h
 |z::c,j,0,_=>rfl
 | z::c,j,k+1,h=>by
  have:=xt a c (j+1) k (by grind);rw[show j+(k+1)=j+1+k by omega];trivial
theorem wJ(z:Int):∀(v t:LiQ),(dI z v t).length<=v.length
 |[],_=>by simp[dI]
 |x::v,[]=>by simp[dI]
 | x::v,y::t=>by
  have:=wJ z v t
  grind[dI]
theorem Df(a:Ad):∀(c:LiQ)(k pr:Nat)(v:LiQ),(D9 a k pr v c).length<=v.length
 |[],_,_,_=>Z7 _
 | z::c,k,pr,v=>by
  simp only[D9];refine Zu (Df a c _ _ _) (Zu (wJ _ _ _) ?_)
  grind[wJ]
theorem AA(P:GW f)(c:LiQ):CP Y F.aV [.agg (plC f),lst di c] (B true):=by
 refine nT ?_;have mk:=RP P;have G:=aeI P;have hb:=SC f;obtain⟨a,ha⟩:=nmQ (adF f);rw[<-ha]at mk G hb;have hlen:=G.wk.len;have hcl:=G.cl;have h5:=G.five
 have bx:∀(q:kkQ)(u:PU q),rh (cQ 0 (.agg (plC f)) [nnQ,nnQ]) q u=q (.ptr 0 1 0 120) [plZ f,nnQ]:=fun q u=>by
  have hl:(plC f).length=120:=by simp[plC]
  rfl
 have l120:ldA [plZ f,nnQ] 120 (.ptr 0 1 0 120)=some (.agg (plC f)):=by
  have:=IY (f:=f) (H:=[nnQ]) (j:=0) (m:=120) aa;simp only[Zp]at this;exact this
 have l120':=(xn _ _ _ _ _ _).symm.trans l120
 have a1:∀(q:kkQ)(u:PU q),rh (alV 1 [.d nPQ,.d nPQ,.d nPQ,.d nPQ,.d (.str []),.d (.str [])] [plZ f,nnQ]) q u=q (.ptr 1 1 0 6) [plZ f,(1,.vars [.d nPQ,.d nPQ,.d nPQ,.d nPQ,.d (.str []),.d (.str [])])]:=fun _ _=>rfl
 have sd:∀(q:kkQ)(u:PU q),rh (stD [plZ f,(1,.vars [.d nPQ,.d nPQ,.d nPQ,.d nPQ,.d (.str []),.d (.str [])])] 6 (.ptr 1 1 0 6) (.agg (adC a))) q u=q .junk [plZ f,adB a]:=fun _ _=>rfl
 obtain⟨H,hH⟩:∃H:Hp,H=[plZ f,adB a]:=⟨_,rfl⟩;have R:Rd a H 1:=by rw[hH];exact⟨rfl,rfl,rfl,rfl⟩
 rw[<-hH]at sd;have l6:=R.l6;have l3:=R.l3;have rc:=R.rc;have l6':=(xn _ _ _ _ _ _).symm.trans l6;have l3':=(xn _ _ _ _ _ _).symm.trans l3;have rc':=(mu _ _ _ _ _).symm.trans rc
 have sp:∀H,aS H [.agg (plC f)]=some ([.agg (plC f)],H):=fun H=>by
  rfl
 have lc:bj (lst di c)=some (I c.length):=rfl;have ld:bj (lst aA a.cd)=some (I a.cd.length):=rfl;have lz:bj (szV [])=some (I 0):=rfl;by_cases h6:6<c.length
 .have g6:(6:Int)<c.length:=aa;simp[aV,bx];refine cd Oj ?_;simp[lc,g6];refine cd Oj ?_;simp
 .have g6:¬(6:Int)<c.length:=aa;by_cases h:chB a c=0
  .have to:=H5 G h;have ro:=SD G h;have mo:=ZD G h;have hc:=aby h;have hcc:=hc.1
   have hall:tw a 0 c=true:=by
    unfold chB at h;rw[if_pos hcc]at h;by_cases g:tw a 0 c=true
    .exact g
    .grind
   have lr:=RR (p:=a.p) G.wk (by simp_all[eh,cI.hp]) (by have:=(eh G.hp).1.2.1;omega) aa G.lkn;have lt:=HC G hb hc;have gl:(c.length:Int)=a.cd.length:=aa;obtain⟨hin,hp0⟩:=eh G.hp;have h61:=hin.2.1;have hct:c.tail.length=c.length-1:=List.length_tail
   have hMl:(LJ a 0 (nth 0 c 0).toNat c.tail).length<1000000:=by
    have:=yk G c.tail 0 (nth 0 c 0).toNat aa;omega
   obtain⟨M,hM⟩:=nmQ (LJ a 0 (nth 0 c 0).toNat c.tail);obtain⟨S0,hS⟩:=nmQ (tL a 0 c);have hSl:S0.length=c.length:=by rw[hS,Hh]
   rw[<-hM]at mo hMl;rw[<-hS]at ro
   have sa:CP Y F.fL [szV (szI a.w.2 (rH a c)),szV (szI a.w.2 (rH a c))] (B true):=Hk (by
    grind[ci,Df,rH])
   have lS:bj (mat S0)=some (I c.length):=by rw[<-hSl];rfl
   have lM:bj (qm mvC M)=some (I M.length):=rfl;have l0:=fun K hK=>EQ G R hcc K c [] rfl hK
   have l1:=fun K hK=>Jz G R hc hS K hK c [] rfl (fun k hk=>by
    grind[xt])
   have l2:=fun K hK=>IA G R hc hMl K hK a.lk.length 0 [] aa (by simp_all)
   rw[show tw a ([]:LiQ).length c=true from hall]at l0;simp[aV,bx];refine cd Oj ?_;simp[lc,g6,l120,l120'];refine cd mk ?_ (sp _);simp[a1,sd,l6,l6'];refine cd to ?_;simp[l6,l6'];refine cd ro ?_;simp[l6,l6'];refine cd mo ?_;simp[rc,rc',ld,gl];refine aT ?_;simp;refine lo (l0 _ ?_);simp[chE,l3,l3'];refine cd lr ?_;simp[l6,l6'];refine cd lt ?_
   simp;refine cd sa ?_ (by rfl);simp(disch:=try exact ag)[lS,lc];refine lo (l1 _ ?_);simp;refine lo (l2 _ ?_);simp[lM]
  .have hN:c.length<1000000:=aa;have to:=El G hN h;have ro:=BP G hN h;have mo:=EH G hN h;by_cases hcc:c.length=a.cd.length
   ·have hall:tw a 0 c=false:=by
     unfold chB at h;rw[if_pos hcc]at h;by_cases g:tw a 0 c=true
     .grind
     .grind
    have hb3:chB a c=3:=by
     unfold chB;rw[if_pos hcc,if_neg (by grind)]
    rw[hb3]at to ro mo;have gl:(c.length:Int)=a.cd.length:=aa;have l0:=fun K hK=>EQ G R hcc K c [] rfl hK
    rw[show tw a ([]:LiQ).length c=false from hall]at l0;simp[aV,bx];refine cd Oj ?_;simp[lc,g6,l120,l120'];refine cd mk ?_ (sp _);simp[a1,sd,l6,l6'];refine cd to ?_;simp[l6,l6'];refine cd ro ?_;simp[l6,l6'];refine cd mo ?_;simp[rc,rc',ld,gl];refine aT ?_;simp;refine lo (l0 _ ?_);simp[chE,lz]
   ·have hb5:chB a c=5:=by
     unfold chB;rw[if_neg hcc]
    rw[hb5]at to ro mo;have gl:¬(c.length:Int)=a.cd.length:=aa
    have l0:∀K,K (.exit 0) [I 5] H->lp (aB (CX Y) (lst di c) (.ptr 1 1 0 6)) [] H [I 5,I 0] H K:=fun K hK=>by
     refine aj ?_;by_cases g:(0:Int)<c.length
     .simp(disch:=try exact ag)[aB,lc,g];exact hK
     .simp(disch:=try exact ag)[aB,lc,g];exact hK
    simp[aV,bx];refine cd Oj ?_;simp[lc,g6,l120,l120'];refine cd mk ?_ (sp _);simp[a1,sd,l6,l6'];refine cd to ?_;simp[l6,l6'];refine cd ro ?_;simp[l6,l6'];refine cd mo ?_;simp[rc,rc',ld,gl];refine aT ?_;simp;refine lo (l0 _ ?_);simp[lz]
end Go.Vm
namespace Go.Proofs
open Go.Shelf
def Tryz.laysPu14_ren:Go.Shelf.Ren:=⟨fun|14=>164|16=>177|17=>143|19=>186|20=>187|21=>160|22=>161|23=>162|24=>163|25=>178|27=>87|26=>179|28=>115|29=>139|30=>155|31=>156|32=>157|33=>158|35=>167|34=>173|36=>174|37=>175|38=>176|39=>184|40=>185|n=>n,fun|9=>9|3=>3|22=>190|24=>187|25=>235|4=>4|34=>229|5=>5|36=>218|37=>211|0=>0|39=>232|21=>21|44=>250|47=>257|50=>260|48=>258|2=>2|52=>224|55=>227|59=>244|60=>245|20=>20|61=>246|65=>261|66=>262|67=>263|n=>n,fun|0=>1|1=>2|2=>0|3=>3|4=>4|n=>n⟩
theorem Tryz.laysPu14:Go.Proofs.LaysPu.n14 Tryz.prog Tryz.laysPu14_ren:={
 mixed:=ah
 f14:=Tryz.func164.trans (congrArg some ah)
 f16:=Tryz.func177.trans (congrArg some ah)
 f17:=Tryz.func143.trans (congrArg some ah)
 f19:=Tryz.func186.trans (congrArg some ah)
 f20:=Tryz.func187.trans (congrArg some ah)
 f21:=Tryz.func160.trans (congrArg some ah)
 f22:=Tryz.func161.trans (congrArg some ah)
 f23:=Tryz.func162.trans (congrArg some ah)
 f24:=Tryz.func163.trans (congrArg some ah)
 f25:=Tryz.func178.trans (congrArg some ah)
 f26:=Tryz.func179.trans (congrArg some ah)
 f27:=Tryz.func87.trans (congrArg some ah)
 f28:=Tryz.func115.trans (congrArg some ah)
 f29:=Tryz.func139.trans (congrArg some ah)
 f30:=Tryz.func155.trans (congrArg some ah)
 f31:=Tryz.func156.trans (congrArg some ah)
 f32:=Tryz.func157.trans (congrArg some ah)
 f33:=Tryz.func158.trans (congrArg some ah)
 f34:=Tryz.func173.trans (congrArg some ah)
 f35:=Tryz.func167.trans (congrArg some ah)
 f36:=Tryz.func174.trans (congrArg some ah)
 f37:=Tryz.func175.trans (congrArg some ah)
 f38:=Tryz.func176.trans (congrArg some ah)
 f39:=Tryz.func184.trans (congrArg some ah)
 f40:=Tryz.func185.trans (congrArg some ah)
 t0:=Tryz.underlying0
 a0:=Tryz.isAgg0
 z0:=Tryz.sizeOf0
 v0:=Tryz.zeroValue0
 i0:=ah
 t2:=Tryz.underlying2
 a2:=Tryz.isAgg2
 z2:=Tryz.sizeOf2
 v2:=Tryz.zeroValue2
 i2:=ah
 t3:=Tryz.underlying3
 a3:=Tryz.isAgg3
 z3:=Tryz.sizeOf3
 v3:=Tryz.zeroValue3
 i3:=ah
 t4:=Tryz.underlying4
 a4:=Tryz.isAgg4
 z4:=Tryz.sizeOf4
 v4:=Tryz.zeroValue4
 i4:=ah
 t5:=Tryz.underlying5
 a5:=Tryz.isAgg5
 z5:=Tryz.sizeOf5
 v5:=Tryz.zeroValue5
 i5:=ah
 t9:=Tryz.underlying9
 a9:=Tryz.isAgg9
 z9:=Tryz.sizeOf9
 v9:=Tryz.zeroValue9
 i9:=ah
 t20:=Tryz.underlying20
 a20:=Tryz.isAgg20
 z20:=Tryz.sizeOf20
 v20:=Tryz.zeroValue20
 i20:=ah
 t21:=Tryz.underlying21
 a21:=Tryz.isAgg21
 z21:=Tryz.sizeOf21
 v21:=Tryz.zeroValue21
 i21:=ah
 t22:=Tryz.underlying190
 a22:=Tryz.isAgg190
 z22:=Tryz.sizeOf190
 v22:=Tryz.zeroValue190
 i22:=ah
 t24:=Tryz.underlying187
 a24:=Tryz.isAgg187
 z24:=Tryz.sizeOf187
 v24:=Tryz.zeroValue187
 i24:=ah
 t25:=Tryz.underlying235
 a25:=Tryz.isAgg235
 z25:=Tryz.sizeOf235
 v25:=Tryz.zeroValue235
 i25:=ah
 t34:=Tryz.underlying229
 a34:=Tryz.isAgg229
 z34:=Tryz.sizeOf229
 v34:=Tryz.zeroValue229
 i34:=ah
 c34:=ah
 t36:=Tryz.underlying218
 a36:=Tryz.isAgg218
 z36:=Tryz.sizeOf218
 v36:=Tryz.zeroValue218
 i36:=ah
 t37:=Tryz.underlying211
 a37:=Tryz.isAgg211
 z37:=Tryz.sizeOf211
 v37:=Tryz.zeroValue211
 i37:=ah
 t39:=Tryz.underlying232
 a39:=Tryz.isAgg232
 z39:=Tryz.sizeOf232
 v39:=Tryz.zeroValue232
 i39:=ah
 t44:=Tryz.underlying250
 a44:=Tryz.isAgg250
 z44:=Tryz.sizeOf250
 v44:=Tryz.zeroValue250
 i44:=ah
 t47:=Tryz.underlying257
 a47:=Tryz.isAgg257
 z47:=Tryz.sizeOf257
 v47:=Tryz.zeroValue257
 i47:=ah
 t48:=Tryz.underlying258
 a48:=Tryz.isAgg258
 z48:=Tryz.sizeOf258
 v48:=Tryz.zeroValue258
 i48:=ah
 t50:=Tryz.underlying260
 a50:=Tryz.isAgg260
 z50:=Tryz.sizeOf260
 v50:=Tryz.zeroValue260
 i50:=ah
 t52:=Tryz.underlying224
 a52:=Tryz.isAgg224
 z52:=Tryz.sizeOf224
 v52:=Tryz.zeroValue224
 i52:=ah
 t55:=Tryz.underlying227
 a55:=Tryz.isAgg227
 z55:=Tryz.sizeOf227
 v55:=Tryz.zeroValue227
 i55:=ah
 t59:=Tryz.underlying244
 a59:=Tryz.isAgg244
 z59:=Tryz.sizeOf244
 v59:=Tryz.zeroValue244
 i59:=ah
 t60:=Tryz.underlying245
 a60:=Tryz.isAgg245
 z60:=Tryz.sizeOf245
 v60:=Tryz.zeroValue245
 i60:=ah
 t61:=Tryz.underlying246
 a61:=Tryz.isAgg246
 z61:=Tryz.sizeOf246
 t65:=Tryz.underlying261
 a65:=Tryz.isAgg261
 z65:=Tryz.sizeOf261
 v65:=Tryz.zeroValue261
 i65:=ah
 t66:=Tryz.underlying262
 a66:=Tryz.isAgg262
 z66:=Tryz.sizeOf262
 v66:=Tryz.zeroValue262
 i66:=ah
 t67:=Tryz.underlying263
 a67:=Tryz.isAgg263
 z67:=Tryz.sizeOf263
 v67:=Tryz.zeroValue263
 i67:=ah
 g0:=ah
 m0:=ah
 g1:=ah
 m1:=ah
 g2:=ah
 m2:=ah
 g3:=ah
 m3:=ah
 g4:=ah
 m4:=by kernel_rfl}
def Tryz.laysC174_ren:Go.Shelf.Ren:=⟨fun|174=>180|247=>159|245=>143|287=>177|279=>160|280=>161|281=>162|282=>163|321=>186|322=>187|316=>178|171=>87|205=>179|243=>115|246=>139|283=>155|284=>156|285=>157|286=>158|129=>167|317=>173|318=>174|319=>175|320=>176|337=>184|338=>185|n=>n,fun|9=>9|3=>3|2=>2|75=>187|85=>230|4=>4|167=>229|5=>5|53=>190|175=>235|46=>218|168=>232|37=>211|0=>0|210=>250|21=>21|127=>257|145=>260|143=>258|171=>224|173=>227|212=>244|51=>245|20=>20|213=>246|232=>261|233=>262|80=>263|n=>n,fun|15=>1|16=>2|17=>0|18=>3|19=>4|n=>n⟩
theorem Tryz.laysC174:Go.Proofs.LaysC.n174 Tryz.prog Tryz.laysC174_ren:={
 mixed:=ah
 f129:=Tryz.func167.trans (congrArg some ah)
 f171:=Tryz.func87.trans (congrArg some ah)
 f174:=Tryz.func180.trans (congrArg some ah)
 f205:=Tryz.func179.trans (congrArg some ah)
 f243:=Tryz.func115.trans (congrArg some ah)
 f245:=Tryz.func143.trans (congrArg some ah)
 f246:=Tryz.func139.trans (congrArg some ah)
 f247:=Tryz.func159.trans (congrArg some ah)
 f279:=Tryz.func160.trans (congrArg some ah)
 f280:=Tryz.func161.trans (congrArg some ah)
 f281:=Tryz.func162.trans (congrArg some ah)
 f282:=Tryz.func163.trans (congrArg some ah)
 f283:=Tryz.func155.trans (congrArg some ah)
 f284:=Tryz.func156.trans (congrArg some ah)
 f285:=Tryz.func157.trans (congrArg some ah)
 f286:=Tryz.func158.trans (congrArg some ah)
 f287:=Tryz.func177.trans (congrArg some ah)
 f316:=Tryz.func178.trans (congrArg some ah)
 f317:=Tryz.func173.trans (congrArg some ah)
 f318:=Tryz.func174.trans (congrArg some ah)
 f319:=Tryz.func175.trans (congrArg some ah)
 f320:=Tryz.func176.trans (congrArg some ah)
 f321:=Tryz.func186.trans (congrArg some ah)
 f322:=Tryz.func187.trans (congrArg some ah)
 f337:=Tryz.func184.trans (congrArg some ah)
 f338:=Tryz.func185.trans (congrArg some ah)
 t0:=Tryz.underlying0
 a0:=Tryz.isAgg0
 z0:=Tryz.sizeOf0
 v0:=Tryz.zeroValue0
 t2:=Tryz.underlying2
 a2:=Tryz.isAgg2
 z2:=Tryz.sizeOf2
 v2:=Tryz.zeroValue2
 t3:=Tryz.underlying3
 a3:=Tryz.isAgg3
 z3:=Tryz.sizeOf3
 v3:=Tryz.zeroValue3
 t4:=Tryz.underlying4
 a4:=Tryz.isAgg4
 z4:=Tryz.sizeOf4
 v4:=Tryz.zeroValue4
 t5:=Tryz.underlying5
 a5:=Tryz.isAgg5
 z5:=Tryz.sizeOf5
 v5:=Tryz.zeroValue5
 t9:=Tryz.underlying9
 a9:=Tryz.isAgg9
 z9:=Tryz.sizeOf9
 v9:=Tryz.zeroValue9
 t20:=Tryz.underlying20
 a20:=Tryz.isAgg20
 z20:=Tryz.sizeOf20
 v20:=Tryz.zeroValue20
 t21:=Tryz.underlying21
 a21:=Tryz.isAgg21
 z21:=Tryz.sizeOf21
 v21:=Tryz.zeroValue21
 t37:=Tryz.underlying211
 a37:=Tryz.isAgg211
 z37:=Tryz.sizeOf211
 v37:=Tryz.zeroValue211
 t46:=Tryz.underlying218
 a46:=Tryz.isAgg218
 z46:=Tryz.sizeOf218
 v46:=Tryz.zeroValue218
 t51:=Tryz.underlying245
 a51:=Tryz.isAgg245
 z51:=Tryz.sizeOf245
 v51:=Tryz.zeroValue245
 t53:=Tryz.underlying190
 a53:=Tryz.isAgg190
 z53:=Tryz.sizeOf190
 v53:=Tryz.zeroValue190
 t75:=Tryz.underlying187
 a75:=Tryz.isAgg187
 z75:=Tryz.sizeOf187
 v75:=Tryz.zeroValue187
 t85:=Tryz.underlying230
 a85:=Tryz.isAgg230
 z85:=Tryz.sizeOf230
 v85:=Tryz.zeroValue230
 t127:=Tryz.underlying257
 a127:=Tryz.isAgg257
 z127:=Tryz.sizeOf257
 v127:=Tryz.zeroValue257
 t143:=Tryz.underlying258
 a143:=Tryz.isAgg258
 z143:=Tryz.sizeOf258
 v143:=Tryz.zeroValue258
 t145:=Tryz.underlying260
 a145:=Tryz.isAgg260
 z145:=Tryz.sizeOf260
 v145:=Tryz.zeroValue260
 t167:=Tryz.underlying229
 a167:=Tryz.isAgg229
 z167:=Tryz.sizeOf229
 v167:=Tryz.zeroValue229
 t168:=Tryz.underlying232
 a168:=Tryz.isAgg232
 z168:=Tryz.sizeOf232
 v168:=Tryz.zeroValue232
 t171:=Tryz.underlying224
 a171:=Tryz.isAgg224
 z171:=Tryz.sizeOf224
 v171:=Tryz.zeroValue224
 t173:=Tryz.underlying227
 a173:=Tryz.isAgg227
 z173:=Tryz.sizeOf227
 v173:=Tryz.zeroValue227
 t175:=Tryz.underlying235
 a175:=Tryz.isAgg235
 z175:=Tryz.sizeOf235
 v175:=Tryz.zeroValue235
 t210:=Tryz.underlying250
 a210:=Tryz.isAgg250
 z210:=Tryz.sizeOf250
 v210:=Tryz.zeroValue250
 t212:=Tryz.underlying244
 a212:=Tryz.isAgg244
 z212:=Tryz.sizeOf244
 v212:=Tryz.zeroValue244
 t213:=Tryz.underlying246
 a213:=Tryz.isAgg246
 z213:=Tryz.sizeOf246
 t232:=Tryz.underlying261
 a232:=Tryz.isAgg261
 z232:=Tryz.sizeOf261
 v232:=Tryz.zeroValue261
 t233:=Tryz.underlying262
 a233:=Tryz.isAgg262
 z233:=Tryz.sizeOf262
 v233:=Tryz.zeroValue262
 g15:=ah
 g16:=ah
 g17:=ah
 g18:=ah
 g19:=ah
 t80:=Tryz.underlying263
 a80:=Tryz.isAgg263
 z80:=Tryz.sizeOf263
 v80:=Tryz.zeroValue263
 i0:=ah
 i2:=ah
 i3:=ah
 i4:=ah
 i5:=ah
 i9:=ah
 i20:=ah
 i21:=ah
 i37:=ah
 i46:=ah
 i51:=ah
 i53:=ah
 i75:=ah
 i80:=ah
 i85:=ah
 i127:=ah
 i143:=ah
 i145:=ah
 i167:=ah
 i168:=ah
 i171:=ah
 i173:=ah
 i175:=ah
 i210:=ah
 i212:=ah
 i232:=ah
 i233:=ah
 m15:=ah
 m16:=ah
 m17:=ah
 m18:=ah
 m19:=ah
 c0:=ah
 c2:=ah
 c3:=ah
 c4:=ah
 c5:=ah
 c9:=ah
 c20:=ah
 c21:=ah
 c37:=ah
 c46:=ah
 c51:=ah
 c53:=ah
 c75:=ah
 c80:=ah
 c85:=ah
 c127:=ah
 c143:=ah
 c145:=ah
 c167:=ah
 c168:=ah
 c171:=ah
 c173:=ah
 c175:=ah
 c210:=ah
 c212:=ah
 c213:=ah
 c232:=ah
 c233:=by kernel_rfl}
end Go.Proofs
namespace Go.Vm
open Go Go.Am
variable{l:LuQ}
theorem Qw:∀(l:LuQ)(a:Nat),a<=pW a l
 |[],a=>Z7 _
 | c::l,a=>by
  have h:a*10+(c.toNat-48)<=pW (a*10+(c.toNat-48)) l:=Qw l _;have e:pW a (c::l)=pW (a*10+(c.toNat-48)) l:=rfl;generalize pW a (c::l)=y at *;generalize pW (a*10+(c.toNat-48)) l=z at *;generalize c.toNat-48=d at *;omega
theorem rN:∀(l:LuQ)(a:Nat),l.all oN=true->pW a l<10000000000000000000->Lib.parseUintM (2^64-1) a l=.ok (pW a l)
 |[],a,_,_=>rfl
 | c::l,a,h,hd=>by
  simp only[List.all_cons,Z8,oN,Nat.ble_eq]at h;have e:pW a (c::l)=pW (a*10+(c.toNat-48)) l:=rfl;rw[e]at hd ⊢;have hge:=Qw l (a*10+(c.toNat-48));rw[Lib.parseUintM,if_pos h.1,if_neg aa,if_neg aa];exact rN l _ h.2 hd
theorem frz(w:World)(e:TypeId)(s:ByteArray):w.heap.size<=(Lib.bytesWorld w e s).heap.size∧(∀c,c<w.heap.size->(Lib.bytesWorld w e s).heap[c]?=w.heap[c]?)∧(Lib.bytesWorld w e s).os=w.os∧(Lib.bytesWorld w e s).output=w.output:=
 ⟨by rw[Lib.bytesWorld_size];omega,fun c hc=>Lib.bytesWorld_at_old w e s c hc,rfl,rfl⟩
theorem WP{c:UInt8}(h:oN c=true):¬c.toNat=43∧¬c.toNat=45:=by simp only[oN,Z8,Nat.ble_eq]at h;omega
theorem Ry(hne:l≠[])(hall:l.all oN=true)(hlt:pW 0 l<9223372036854775808):Lib.parseIntB 64 l=.ok (pW 0 l:Int):=by
 cases l with
 |nil=>exact absurd rfl hne
 | cons c r=>
  have hc:=WP (Zv.1 hall c af)
  have hp:Lib.parseUintB 64 (c::r)=.ok (pW 0 (c::r)):=by
   rw[Lib.parseUintB,if_neg hne];exact rN _ _ hall aa
  unfold Lib.parseIntB;simp only[hc.1,hc.2,or_self,if_false,hp];rw[if_neg bK,if_neg af]
theorem Rx(hne:l≠[])(hall:l.all oN=true)(hlt:pW 0 l<9223372036854775808):Lib.parseIntB 64 (45::l)=.ok (-(pW 0 l:Int)):=by
 have hp:Lib.parseUintB 64 l=.ok (pW 0 l):=by
  rw[Lib.parseUintB,if_neg hne];exact rN _ _ hall aa
 have h45:(45:UInt8).toNat=45:=rfl;unfold Lib.parseIntB;simp only[h45,or_true,if_true,hp];rw[if_neg af,if_neg bK]
theorem afG:adb X:=by
 intro f args v h;simp only[X]at h;split at h
 .rename_i hf;obtain rfl:=Zl hf;unfold Lh at h;split at h
  .rename_i s a b;split at h
   .rename_i hc;obtain⟨rfl,rfl,hne,hall,hsz,hlt⟩:=hc;obtain rfl:=Option.some.inj h;refine⟨rfl,rfl,.inr ⟨⟨_,Go.Proofs.Tryz.func164,ah,ah⟩,fun w=>?_⟩⟩
    have hp:Lib.parseUintB 64 s.data.toList=.ok (pW 0 s.data.toList):=by
     rw[Lib.parseUintB,if_neg hne];exact rN _ _ hall hlt
    have hsz2:s.size=s.data.toList.length:=by rw[Array.length_toList];rfl
    have hmax:s.size≤9223372036854775806:=aa;refine(Go.Proofs.Any.strconv_ParseUint_10_at64_ok Go.Proofs.Tryz.laysPu14 s hmax _ hp w).mono ?_;rintro e w' ⟨rfl,rfl|rfl⟩
    .exact⟨rfl,Z7 _,fun _ _=>rfl,rfl,rfl⟩
    .exact⟨rfl,frz w _ s⟩
   .cases h
  .cases h
 .split at h
  .rename_i hf;obtain rfl:=Zl hf
   have key:∀(s:ByteArray)(z:Int),s.data.toList.length≤1001→Lib.parseIntB 64 s.data.toList=.ok z→v=.tuple #[.int .i64 z,.nilIface]→args=[.string s,.int .i64 10,.int .i64 64] →
     kW args=true∧plain v=true∧(MW X F.gM args v∨(∃fn,Go.Proofs.Tryz.prog.funcs[F.gM]?=some fn∧fn.body.isNone=false∧(fn.name == "runtime.NumGoroutine")=false) ∧
     ∀w,Calls Go.Proofs.Tryz.prog F.gM args.toArray w fun e w'=>e=.returned v∧w.heap.size≤w'.heap.size∧(∀c,c<w.heap.size→w'.heap[c]?=w.heap[c]?)∧w'.os=w.os∧w'.output=w.output):=by
    intro s z hl hp hv ha;subst hv;subst ha;refine⟨rfl,rfl,.inr ⟨⟨_,Go.Proofs.Tryz.func180,ah,ah⟩,fun w=>?_⟩⟩;have hsz2:s.size=s.data.toList.length:=by rw[Array.length_toList];rfl
    refine(Go.Proofs.Any.strconv_ParseInt_10_at64_ok Go.Proofs.Tryz.laysC174 s aa z hp w).mono ?_;rintro e w' ⟨rfl,rfl|⟨t,rfl⟩⟩
    .exact⟨rfl,Z7 _,fun _ _=>rfl,rfl,rfl⟩
    .exact⟨rfl,frz w _ t⟩
   unfold PS at h;split at h
   .rename_i s a b;split at h
    .rename_i hab;obtain⟨rfl,rfl⟩:=hab;split at h
     .rename_i l hs;split at h
      .rename_i hc;obtain⟨hne,hall,hsz,hlt⟩:=hc;obtain rfl:=Option.some.inj h;exact key s _ (by rw[hs];simp;omega) (by rw[hs];exact Rx hne hall hlt) rfl rfl
      .cases h
     .rename_i l hs;split at h
      .rename_i hc;obtain⟨hne,hall,hsz,hlt⟩:=hc;obtain rfl:=Option.some.inj h;exact key s _ aa (Ry hne hall hlt) rfl rfl
      .cases h
    .cases h
   .cases h
  .cases h
end Go.Vm
namespace Go.Proofs
open Go.RowKit Go.Shelf
attribute [local go_sem] Oper.semAt_some
def aeL(W:World)(B o k c s:Nat):Prop:=∃(a:Option Addr)(cap:Nat),W.cell? ⟨B,o,none⟩=some (.slice a k cap)∧(0<k->a=some ⟨c,s,none⟩)
def ab0(W:World)(B o B2 o2 k c s c2 s2:Nat)(us vs:LvQ):Prop:=
 aeL W B o k c s∧aeL W B2 o2 k c2 s2∧(∀(i:Nat) v,us[i]?=some v->W.cell? ⟨c,s+i,none⟩=some v)∧∀(i:Nat) v,vs[i]?=some v->W.cell? ⟨c2,s2+i,none⟩=some v
set_option maxRecDepth 100000 in
set_option maxHeartbeats 2000000 in
theorem abW(l B o k c s c2 s2:Nat)(us vs:LvQ)(hu:us.length=k)(hv:vs.length=k)(hk:k<4611686018427387904)(J Jx:Nat->World->Prop)
  (hV:∀i W1,J i W1->ab0 W1 B o B (o+1) k c s c2 s2 us vs)
  (hY:∀(i:Nat) x y W1,J i W1->us[i]?=some x->vs[i]?=some y->YieldAt (Go.Am.Fw none) 0 Tryz.prog l #[x,y] W1 fun e W'=>(e=.returned (.bool true)∧J (i+1) W')∨(e=.returned (.bool false)∧Jx (i+1) W'))
  (W:World) (h0:J 0 W) :
  CallsIn (Go.Am.Fw none) 1 Tryz.prog 170 #[.func (.yield l) #[] #[],.pointer (some ⟨B,o,none⟩)] W fun e W'=>(∃v,e=.returned v)∧(J k W'∨∃i,Jx i W'):=by
 refine callsIn_of_wp Tryz.func170 rfl trivial ?_ rfl;simp only[Tryz.ntmps170,List.size_toArray,List.length_cons,List.length_nil,Nat.reduceAdd,Nat.reduceSub,Array.replicate_succ,Array.replicate_zero,List.push_toArray,List.append_toArray,List.nil_append,List.cons_append];obtain⟨⟨a,cap,hc0,ha⟩,_⟩:=hV 0 W h0
 gi_wp2
 gi_loopw [8] (fun i wr=>∃j:Nat,j<=k∧i=.int .i64 j∧J j wr) (fun i _=>k-(intOf i).toNat)
 case atStart=>grind
 case round=>
  obtain⟨j,hj,rfl,hJs⟩:=hrel;by_cases hlt:j<k
  .obtain rfl:=ha aa;have ex:∃x,us[j]?=some x:=⟨_,List.getElem?_eq_getElem aa⟩;have ey:∃y,vs[j]?=some y:=⟨_,List.getElem?_eq_getElem aa⟩;obtain⟨x,hx⟩:=ex;obtain⟨y,hy'⟩:=ey;obtain⟨_,⟨a2,cap2,hc2,ha2⟩,hus,hvs⟩:=hV j wr hJs;obtain rfl:=ha2 aa;have hcx:=hus j x hx;have hcy:=hvs j y hy';obtain⟨fn,tmps,assign,body,hy,hR⟩:=hY j x y wr hJs hx hy'
   clear hx hy' hus hvs
   gi_wp2
   refine hR.mono ?_;rintro e W3 (⟨rfl,hJ3⟩|⟨rfl,hJx3⟩)
   .gi_wp2
    go_roundw
    case rel=>exact⟨j+1,aa,af,hJ3⟩
    case measure=>simp[intOf];omega
   .gi_wp2
    refine bodyPost_ret (results_none rfl _ _ _) rfl ?_;exact⟨⟨_,rfl⟩,.inr ⟨_,hJx3⟩⟩
  .obtain rfl:j=k:=aa
   gi_wp2
   simp_all[bodyPost_end,results_none]
set_option maxRecDepth 100000 in
set_option maxHeartbeats 2000000 in
theorem RE(l B o B2 o2 k c s c2 s2:Nat)(us vs:LvQ)(hu:us.length=k)(hv:vs.length=k)(hk:k<4611686018427387904)(J Jx:Nat->World->Prop)
  (hV:∀i W1,J i W1->ab0 W1 B o B2 o2 k c s c2 s2 us vs)
  (hY:∀(i:Nat) x y W1,J i W1->us[i]?=some x->vs[i]?=some y->YieldAt (Go.Am.Fw none) 0 Tryz.prog l #[x,y] W1 fun e W'=>(e=.returned (.bool true)∧J (i+1) W')∨(e=.returned (.bool false)∧Jx (i+1) W'))
  (W:World) (h0:J 0 W) :
  CallsIn (Go.Am.Fw none) 1 Tryz.prog 98 #[.func (.yield l) #[] #[],.pointer (some ⟨B,o,none⟩),.pointer (some ⟨B2,o2,none⟩)] W fun e W'=>(∃v,e=.returned v)∧(J k W'∨∃i,Jx i W'):=by
 refine callsIn_of_wp Tryz.func98 rfl trivial ?_ rfl;simp only[Tryz.ntmps98,List.size_toArray,List.length_cons,List.length_nil,Nat.reduceAdd,Nat.reduceSub,Array.replicate_succ,Array.replicate_zero,List.push_toArray,List.append_toArray,List.nil_append,List.cons_append];obtain⟨⟨a,cap,hc0,ha⟩,_⟩:=hV 0 W h0
 gi_wp2
 gi_loopw [8] (fun i wr=>∃j:Nat,j<=k∧i=.int .i64 j∧J j wr) (fun i _=>k-(intOf i).toNat)
 case atStart=>grind
 case round=>
  obtain⟨j,hj,rfl,hJs⟩:=hrel;by_cases hlt:j<k
  .obtain rfl:=ha aa;have ex:∃x,us[j]?=some x:=⟨_,List.getElem?_eq_getElem aa⟩;have ey:∃y,vs[j]?=some y:=⟨_,List.getElem?_eq_getElem aa⟩;obtain⟨x,hx⟩:=ex;obtain⟨y,hy'⟩:=ey;obtain⟨_,⟨a2,cap2,hc2,ha2⟩,hus,hvs⟩:=hV j wr hJs;obtain rfl:=ha2 aa;have hcx:=hus j x hx;have hcy:=hvs j y hy';obtain⟨fn,tmps,assign,body,hy,hR⟩:=hY j x y wr hJs hx hy'
   clear hx hy' hus hvs
   gi_wp2
   refine hR.mono ?_;rintro e W3 (⟨rfl,hJ3⟩|⟨rfl,hJx3⟩)
   .gi_wp2
    go_roundw
    case rel=>exact⟨j+1,aa,af,hJ3⟩
    case measure=>simp[intOf];omega
   .gi_wp2
    refine bodyPost_ret (results_none rfl _ _ _) rfl ?_;exact⟨⟨_,rfl⟩,.inr ⟨_,hJx3⟩⟩
  .obtain rfl:j=k:=aa
   gi_wp2
   simp_all[bodyPost_end,results_none]
end Go.Proofs
namespace Go.Vm
open Go Go.Am Go.Proofs
noncomputable section
variable{f:FuncId}{p q v a b:Value}{xs:List LvQ}
theorem If{P:Program}{args:Array Value}{w:World}{R:Ending->World->Prop}(h:CallsIn (Fw none) 1 P f args w R):CallsIn (Fw none) 0 P f args w R:=
 ⟨h.1,fun cs _=>h.2 cs (fun d hd=>by trivial)⟩
def hd1(x:LvQ):Value:=x.headD default
def sd1(x:LvQ):Value:=x.tail.headD default
theorem zip_map:∀(us vs:LvQ),us.length=vs.length->(((us.zip vs).map fun x=>[x.1,x.2]).map hd1)=us∧(((us.zip vs).map fun x=>[x.1,x.2]).map sd1)=vs
 |[],[],_=>⟨rfl,rfl⟩
 | u::us,v::vs,h=>by
  obtain⟨h1,h2⟩:=zip_map us vs (by grind);simp only[List.zip_cons_cons,Z2,h1,h2];trivial
 |[],_::_,h=>by simp at h
 |_::_,[],h=>by simp at h
theorem zy{H:AH}(h:J7 H p q=some xs):nU H 1 p=some (xs.length,xs.map hd1)∧nU H 1 q=some (xs.length,xs.map sd1)∧xs.length<4611686018427387904∧On p=true∧On q=true ∧
  ∀x∈xs,x=[hd1 x,sd1 x]∧plain (hd1 x)=true∧plain (sd1 x)=true:=by
 unfold J7 at h;split at h
 case h_2=>cases h
 rename_i k us k' vs hp hq;split at h
 case isFalse=>cases h
 rename_i hc;obtain⟨h1,h2,h3,h4,h5,h6,h7⟩:=hc;simp only[Z9]at h;subst h;obtain⟨m1,m2⟩:=zip_map us vs aa;have hl:((us.zip vs).map fun x=>[x.1,x.2]).length=k:=by simp;omega
 rw[m1,m2,hl];simp only[Z8]at h5;refine⟨hp,by rw[hq,h1],h4,h5.1,h5.2,fun x hx=>?_⟩;obtain⟨⟨a,b⟩,hab,rfl⟩:=Zc.1 hx;have:=We hab;have e1:=Zv.1 h6 a this.1;have e2:=Zv.1 h7 b this.2;simp only[Z8]at e1 e2;exact⟨rfl,e1.1,e2.1⟩
theorem Dj{X:Cfg}{φ:bG}(hp:On p=true)(hv:av φ p v):∃c s:Nat,∀(φ':bG)(H':AH)(w':World)(k:Nat)(us:LvQ),bn X φ' H' w'->PLe φ φ'->nU H' 1 p=some (k,us)->us.length=k->(∀u∈us,plain u=true) ->
  ∀B o v',w'.cell? ⟨B,o,none⟩=some v'->av φ' p v'->aeL w' B o k c s∧∀(i:Nat) u,us[i]?=some u->w'.cell? ⟨c,s+i,none⟩=some u:=by
 cases p<;>simp only[On]at hp<;>try cases hp
 rename_i a n cap;cases a with
 | none=>
  refine⟨0,0,fun φ' H' w' k us hh _ hs hk _ B o v' hc hv'=>?_⟩;have e:=gZ hv';subst e;cases n with
  | zero=>
   simp only[nU,Z9,Z5]at hs;obtain⟨rfl,rfl⟩:=hs;exact⟨⟨none,cap,hc,fun h=>absurd h aa⟩,fun i u hi=>by simp at hi⟩
  |succ n=>trivial
 | some a=>
  obtain⟨a',c',rfl,hs⟩:=iy hv
  have hpl:a.spot=none∧∃pl,φ a.block=some pl:=by
   rcases hs with⟨h1,_,pl,hp,_⟩|⟨h1,_,_,_,pl,hp⟩
   .grind
   .grind
  obtain⟨hsp,pl,hpl⟩:=hpl;obtain⟨b,off,sp⟩:=a;simp only at hsp hpl;subst hsp;refine⟨pl.c,pl.s+off,fun φ' H' w' k us hh hle hs' hk hpl' B o v' hc hv'=>?_⟩;obtain⟨⟨b2,o2,s2⟩,c2,rfl,hs2⟩:=iy hv';have hpb:=hle _ _ hpl;simp only[nU]at hs';split at hs'
  .rename_i hn;simp only[Z9,Z5]at hs';obtain⟨rfl,rfl⟩:=hs';subst hn;exact⟨⟨_,c2,hc,fun h=>absurd h aa⟩,fun i u hi=>by simp at hi⟩
  .rename_i hn;simp only[Yc,Z3,Z5]at hs';obtain⟨cs,hr,rfl,rfl⟩:=hs';obtain⟨cs',r1,r2,r3,r4⟩:=hh.read hr hpb
   have hb:b2=pl.c∧o2=pl.s+off∧s2=none:=by
    rcases hs2 with⟨_,h2,pl2,hp2,h3,h4,_⟩|⟨_,h0,_⟩
    .grind
    .omega
   obtain⟨rfl,rfl,rfl⟩:=hb;refine⟨⟨_,c2,hc,fun _=>rfl⟩,fun i u hi=>?_⟩
   grind[am.at,nM,av.of_plain]
theorem Hy{x:LvQ}(h:x=[hd1 x,sd1 x]∧plain (hd1 x)=true∧plain (sd1 x)=true):kW x=true:=by grind[kW]
theorem SO(hpl:∀x∈xs,x=[hd1 x,sd1 x]∧plain (hd1 x)=true∧plain (sd1 x)=true){i:Nat}(ha:(xs.map hd1)[i]?=some a)(hb:(xs.map sd1)[i]?=some b):xs[i]?=some [a,b]:=by grind
theorem VW {fn:Func}(h:Tryz.prog.funcs[f]?=some fn)(hb:fn.body.isNone=false)(hn:(fn.name == "runtime.NumGoroutine")=false):∃fn,X.P.funcs[f]?=some fn∧fn.body.isNone=false∧(fn.name == "runtime.NumGoroutine")=false:=⟨fn,h,hb,hn⟩
set_option maxRecDepth 100000 in
theorem aek:∃fn,X.P.funcs[170]?=some fn∧fn.body.isNone=false∧(fn.name == "runtime.NumGoroutine")=false:=VW Tryz.func170 rfl (by rfl)
set_option maxRecDepth 100000 in
theorem VX:∃fn,X.P.funcs[98]?=some fn∧fn.body.isNone=false∧(fn.name == "runtime.NumGoroutine")=false:=VW Tryz.func98 rfl (by rfl)
theorem afy:QT X:=by
 intro gf lb H xs h0;have h:Ez gf lb H=some xs:=h0;clear h0;unfold Ez at h;split at h
 .rename_i hg;have hg:gf=170:=Zl hg;subst hg;split at h
  case h_2=>cases h
  rename_i b o;split at h
  case h_2=>cases h
  rename_i p q d hrd;obtain⟨s1,s2,s3,s4,s5,hpl⟩:=zy h;refine⟨fun x hx=>Hy (hpl x hx),aek,fun φ w lb' hh hl=>?_⟩;simp only[am]at hl;obtain⟨v',r,rfl,hv',rfl⟩:=hl;obtain⟨pl,hpb,rfl⟩:=qB hv';obtain⟨cs',r1,r2,r3,r4⟩:=hh.read hrd hpb;simp only[am]at r1;obtain⟨p',_,rfl,hp',q',_,rfl,hq',d',_,rfl,hd',rfl⟩:=r1;obtain⟨c,s,base⟩:=Dj (X:=X) s4 hp'
  obtain⟨c2,s2',MY⟩:=Dj (X:=X) s5 hq';refine⟨fun W=>ab0 W pl.c (pl.s+o) pl.c (pl.s+o+1) xs.length c s c2 s2' (xs.map hd1) (xs.map sd1),fun φ' H' w' hh' hle hl' hs hk=>?_,fun l J Jx W hV hY h0=>?_⟩
  .have hk:(bF H' b o 3).getD []=(bF H b o 3).getD []:=hk;have hs:Ez 170 [.pointer (some ⟨b,o,none⟩)] H'=some xs:=hs;rw[hrd]at hk
   have hrd':bF H' b o 3=some [p,q,d]:=by
    cases hr:bF H' b o 3 with
    |none=>grind
    |some cs=>grind
   have hz:J7 H' p q=some xs:=by
    unfold Ez at hs;rw[show Nat.beq 170 F.dK=true from rfl]at hs;simp only[hrd']at hs;exact hs
   obtain⟨t1,t2,_⟩:=zy hz;obtain⟨ds',u1,u2,u3,u4⟩:=hh'.read hrd' (hle _ _ hpb);simp only[am]at u1;obtain⟨p2,_,rfl,hp2,q2,_,rfl,hq2,d2,_,rfl,hd2,rfl⟩:=u1;have k0:=u4 0 p2 rfl;have k1:=u4 1 q2 rfl;rw[nM]at k0 k1;obtain⟨w1,w2⟩:=base φ' H' w' _ _ hh' hle t1 af (fun u hu=>by grind) _ _ _ k0 hp2
   obtain⟨w3,w4⟩:=MY φ' H' w' _ _ hh' hle t2 af (fun u hu=>by grind) _ _ _ k1 hq2;trivial
  .exact If (abW l pl.c (pl.s+o) xs.length c s c2 s2' (xs.map hd1) (xs.map sd1) af af s3 J Jx hV (fun i x y W1 hJ hx hy=>hY i [x,y] W1 hJ (SO hpl hx hy)) W h0)
 .split at h
  case h_2=>cases h
  rename_i hg;have hg:gf=98:=Zl hg;subst hg;split at h
  case h_2=>cases h
  rename_i b o b2 o2;split at h
  case h_2=>cases h
  rename_i p q hrd hrd2;obtain⟨s1,s2,s3,s4,s5,hpl⟩:=zy h;refine⟨fun x hx=>Hy (hpl x hx),VX,fun φ w lb' hh hl=>?_⟩;simp only[am]at hl;obtain⟨v',r,rfl,hv',v2',r2',rfl,hv2',rfl⟩:=hl;obtain⟨pl,hpb,rfl⟩:=qB hv';obtain⟨pl2,hpb2,rfl⟩:=qB hv2';obtain⟨cs',r1,r2,r3,r4⟩:=hh.read hrd hpb;simp only[am]at r1;obtain⟨p',_,rfl,hp',rfl⟩:=r1
  obtain⟨cs2',e1,e2,e3,e4⟩:=hh.read hrd2 hpb2;simp only[am]at e1;obtain⟨q',_,rfl,hq',rfl⟩:=e1;obtain⟨c,s,base⟩:=Dj (X:=X) s4 hp';obtain⟨c2,s2',MY⟩:=Dj (X:=X) s5 hq';refine⟨fun W=>ab0 W pl.c (pl.s+o) pl2.c (pl2.s+o2) xs.length c s c2 s2' (xs.map hd1) (xs.map sd1),fun φ' H' w' hh' hle hl' hs hk=>?_,fun l J Jx W hV hY h0=>?_⟩
  .have hk:(bF H' b o 1).getD []++(bF H' b2 o2 1).getD []=(bF H b o 1).getD []++(bF H b2 o2 1).getD []:=hk;have hs:Ez 98 [.pointer (some ⟨b,o,none⟩),.pointer (some ⟨b2,o2,none⟩)] H'=some xs:=hs;rw[hrd,hrd2]at hk
   have hz:bF H' b o 1=some [p]∧bF H' b2 o2 1=some [q]∧J7 H' p q=some xs:=by
    unfold Ez at hs;rw[show Nat.beq 98 F.dK=false from rfl,show Nat.beq 98 F.nD=true from rfl]at hs;simp only at hs;split at hs
    case h_2=>cases hs
    rename_i p0 q0 g1 g2;rw[g1,g2]at hk;simp only[Option.getD_some,List.cons_append,List.nil_append,List.cons.injEq,and_true]at hk;obtain⟨rfl,rfl⟩:=hk;exact⟨g1,g2,hs⟩
   obtain⟨hrd',hrd2',hz⟩:=hz;obtain⟨t1,t2,_⟩:=zy hz;obtain⟨ds',u1,u2,u3,u4⟩:=hh'.read hrd' (hle _ _ hpb);simp only[am]at u1;obtain⟨p2,_,rfl,hp2,rfl⟩:=u1;obtain⟨ds2',x1,x2,x3,x4⟩:=hh'.read hrd2' (hle _ _ hpb2);simp only[am]at x1;obtain⟨q2,_,rfl,hq2,rfl⟩:=x1;have k0:=u4 0 p2 rfl;have k1:=x4 0 q2 rfl;rw[nM]at k0 k1
   obtain⟨w1,w2⟩:=base φ' H' w' _ _ hh' hle t1 af (fun u hu=>by grind) _ _ _ k0 hp2;obtain⟨w3,w4⟩:=MY φ' H' w' _ _ hh' hle t2 af (fun u hu=>by grind) _ _ _ k1 hq2;trivial
  .exact If (RE l pl.c (pl.s+o) pl2.c (pl2.s+o2) xs.length c s c2 s2' (xs.map hd1) (xs.map sd1) af af s3 J Jx hV (fun i x y W1 hJ hx hy=>hY i [x,y] W1 hJ (SO hpl hx hy)) W h0)
end
end Go.Vm
set_option maxRecDepth 100000
namespace Go.Vm
open Go Go.Am
theorem aei:(List.range X.P.funcs.size).all (fun f=>!X.allow f||match X.P.funcs[f]? with
  |some fn=>aaC X.P fn&&(match fn.body with|some c=>jZ Y fn.ntmps c|none=>true)
  |none=>true)=true:=bb
theorem acD{f:FuncId}{fn:Func}(ha:X.allow f=true)(hf:X.P.funcs[f]?=some fn):aaC X.P fn=true∧(match fn.body with|some c=>jZ Y fn.ntmps c|none=>true)=true:=by
 have hlt:f<X.P.funcs.size:=by
  rcases Zi f X.P.funcs.size with h|h
  .exact h
  .rw[Array.getElem?_eq_none h]at hf;cases hf
 have:=Zv.1 aei f (X6.2 hlt);rw[ha,hf]at this;simpa using this
theorem vOk:VOk Y where
 y:=yOk
 fns f fn c ha hf hc:=by have:=(acD ha hf).2;rw[hc]at this;exact this
theorem adV:OW X where
 mixed:=by rfl
 fns f fn ha hf:=(acD ha hf).1
 orc:=afG
 seq:=afy
end Go.Vm
