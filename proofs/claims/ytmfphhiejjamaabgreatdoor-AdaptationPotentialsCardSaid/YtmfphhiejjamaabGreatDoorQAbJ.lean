/- Lemmas. -/
import Derived.Test.YtmfphhiejjamaabGreatDoorQAbD
import Derived.Shelf.Pu.ParseUintPublic10
import Derived.Shelf.Strconv.ParseIntPublic10
set_option linter.unusedVariables false
set_option linter.unusedSimpArgs false
namespace Go.Vm
open Go Go.Am Go.Big
variable{C n d i m Bd k j c:Nat}{r y s t:LiQ}{α:Type}{h H h1:Hp}{cs ss bs:LLQ}{f g:Nat->Int}{clr:LnQ}
theorem qV{B:Nat}(h:bdN B r)(hc:B<=C):bdN C r:=fun x hx=>Zu (h x hx) hc
theorem tb{p:LiQ}{B:Nat}{l:LLQ}(h:okR p B l)(hc:B<=C):okR p C l:=fun r hr=>⟨(h r hr).1,qV (h r hr).2 hc⟩
section
variable{p:LiQ}{b:Nat}
theorem PC{B:Nat}(G:Nf p b B){bs:LLQ}(hb:okR p B bs)(hb0:0<bs.length):∀(o:LLQ)(ss:List LLQ),okR p B o->(∀s∈ss,0<s.length∧okR p B s)->okR p (B+B+B) (uA p o ss bs)
 |[],_,_,_=>fun r hr=>by trivial
 |o::os,[],_,_=>fun r hr=>by trivial
 | o::os,s::ss,ho,hs=>by
  obtain⟨x,m1,m2,m3⟩:=Jj G (ho o af) s bs none (hs s af).2 hb (fun _ h=>by cases h) (.inr ⟨(hs s af).1,hb0⟩);have ih:=PC G hb hb0 os ss (fun r hr=>ho r (by grind)) (fun r hr=>hs r (by grind));intro r hr;simp only[uA,m1,Option.getD_some,Zo]at hr;rcases hr with rfl|hr
  .trivial
  .exact ih r hr
theorem H5{B:Nat}(G:Nf p b B){prev:LLQ}{St:List LLQ}(hb:okR p B prev)(hb0:0<prev.length)(hS:prev.length=St.length):∀(o:LLQ)(j:Nat),okR p B o->(∀s∈St,j+o.length<=s.length∧okR p B s)->okR p (B+B+B) (jQ p prev St j o)
 |[],_,_,_=>fun r hr=>by trivial
 | o::os,j,ho,hs=>by
  have okc:okR p B (yk j St):=fun x hx=>by
   obtain⟨ss,hss,rfl⟩:=Zc.1 hx;have:=(hs ss hss).1;simp only[List.length_cons]at this;exact(hs ss hss).2 _ (aQ (d:=[]) aa)
  obtain⟨x,m1,m2,m3⟩:=Jj G (ho o af) (yk j St) prev none okc hb (fun _ h=>by cases h) (.inr ⟨by grind[yk],hb0⟩)
  have ih:=H5 G hb hb0 hS os (j+1) (fun r hr=>ho r (by grind)) (fun s h=>by
   have:=hs s h;simp only[List.length_cons]at this;exact⟨aa,this.2⟩)
  intro r hr;simp only[jQ,m1,Option.getD_some,Zo]at hr;rcases hr with rfl|hr
  .trivial
  .exact ih r hr
structure xA(p:LiQ)(b B:Nat)(owns:List LLQ)(steps:List (List LLQ)):Prop where
 hp:pcS p
 b0:0<b
 b1:b<1000000
 ne:0<owns.length
 five:owns.length<=5
 B1:B<=2000000
 hl:steps.length=owns.length
 ho:∀o∈owns,0<o.length∧o.length<1000000∧okR p B o
 hs:∀k,k+1<owns.length->(nth [] steps k).length=(nth [] owns k).length∧∀ss∈nth [] steps k,ss.length=(nth [] owns (k+1)).length∧okR p B ss
variable{B:Nat}{owns:List LLQ}{steps:List (List LLQ)}
def p3:Nat->Nat
 |0=>1
 |n+1=>p3 n+p3 n+p3 n
theorem acm(h:n<=4):p3 n<=81:=by have:n=0∨n=1∨n=2∨n=3∨n=4:=aa;rcases this with rfl|rfl|rfl|rfl|rfl<;>decide
theorem UC:∀n,1<=p3 n
 |0=>Z7 _
 |n+1=>by have:=UC n;grind[p3]
theorem xA.gr(P:xA p b B owns steps)(h:n<=4):Nf p b (B*p3 n):=
 ⟨P.hp,P.b0,P.b1,by have h1:=Zn P.B1 (acm h);omega⟩
theorem xA.rests(P:xA p b B owns steps):∀(d m:Nat),m+d+1=owns.length->∀r∈dQ p (owns.drop m) (steps.drop m),0<r.length∧r.length<1000000∧okR p (B*p3 d) r
 | 0,m,hm=>by
  have hml:m<owns.length:=aa;have e1:owns.drop m=[nth [] owns m]:=by rw[Z0 hml,aN _ _ _ hml,Xe aa]
  rw[e1];intro r hr;have:dQ p [nth [] owns m] (steps.drop m)=[nth [] owns m]:=by cases steps.drop m<;>rfl
  rw[this,List.mem_singleton]at hr;subst hr;have:=P.ho _ (aQ (d:=[]) hml)
  grind[p3]
 | d+1,m,hm=>by
  have five:=P.five;have hml:m<owns.length:=aa;have hml1:m+1<owns.length:=aa;have hl:=P.hl;have e1:owns.drop m=nth [] owns m::nth [] owns (m+1)::owns.drop (m+1+1):=by rw[Z0 hml,aN _ _ _ hml,Z0 hml1,aN _ _ _ hml1]
  have e1':owns.drop (m+1)=nth [] owns (m+1)::owns.drop (m+1+1):=by rw[Z0 hml1,aN _ _ _ hml1]
  have e2:steps.drop m=nth [] steps m::steps.drop (m+1):=by rw[Z0 aa,aN _ _ _ aa]
  have ih:=P.rests d (m+1) aa;rw[e1,e2];simp only[dQ];rw[<-e1'];obtain⟨hd,tl,ht⟩:=Cs p (nth [] owns (m+1)) (owns.drop (m+1+1)) (steps.drop (m+1));rw[<-e1']at ht;rw[ht]at ih ⊢;obtain⟨h1,h2,h3⟩:=ih hd af;obtain⟨o1,o2,o3⟩:=P.ho _ (aQ (d:=[]) hml);obtain⟨o1',_⟩:=P.ho _ (aQ (d:=[]) hml1);obtain⟨s1,s2⟩:=P.hs m hml1
  have hB1:B<=B*p3 d:=by have:=Zw B (UC d);omega
  have rk:=PC (P.gr (n:=d) aa) h3 h1 (nth [] owns m) (nth [] steps m) (tb o3 hB1) (fun s hs=>⟨by grind,tb (s2 s hs).2 hB1⟩);have rl:=wZ p (nth [] owns m) (nth [] steps m) hd s1;have e3:B*p3 (d+1)=B*p3 d+B*p3 d+B*p3 d:=by simp only[p3,Zq]
  grind[tb]
theorem xA.le(P:xA p b B owns steps)(h:d<=4):B*p3 d<=200000000:=by have h1:=Zn P.B1 (acm h);omega
theorem xA.cost(P:xA p b B owns steps):ZE p b 200000000 owns steps:=by
 have hB:=P.B1;have five:=P.five;refine⟨⟨P.hp,P.b0,P.b1,ae⟩,P.ne,P.hl,aa,fun o h=>?_,fun k hk=>?_,fun m hm r hr=>?_⟩
 .obtain⟨h1,h2,h3⟩:=P.ho o h;exact⟨h1,h2,tb h3 aa⟩
 .obtain⟨h1,h2⟩:=P.hs k hk;exact⟨h1,fun ss h=>⟨(h2 ss h).1,tb (h2 ss h).2 aa⟩⟩
 .obtain⟨h1,h2,h3⟩:=P.rests (owns.length-1-m) m aa r hr;exact⟨h2,tb h3 (P.le aa)⟩
theorem xA.pots(P:xA p b B owns steps):∀(d k:Nat)(prev:LLQ),k+d+1=owns.length->prev.length=(nth [] owns k).length->okR p (B*p3 k) prev->∀r∈vn p prev (owns.drop (k+1)) (steps.drop k),okR p 200000000 r
 | 0,k,prev,hk,_,_=>by
  have e:owns.drop (k+1)=[]:=Xe aa;rw[e];intro r hr;have:vn p prev [] (steps.drop k)=[]:=by cases steps.drop k<;>rfl
  trivial
 | d+1,k,prev,hk,hpl,hpo=>by
  have five:=P.five;have hk1:k+1<owns.length:=aa;have hl:=P.hl;obtain⟨o1,o2,o3⟩:=P.ho _ (aQ (d:=[]) (show k<owns.length by omega));obtain⟨q1,q2,q3⟩:=P.ho _ (aQ (d:=[]) hk1);obtain⟨s1,s2⟩:=P.hs k hk1;have hB1:B<=B*p3 k:=by have:=Zw B (UC k);omega
  have e1:owns.drop (k+1)=nth [] owns (k+1)::owns.drop (k+1+1):=by rw[Z0 hk1,aN _ _ _ hk1]
  have e2:steps.drop k=nth [] steps k::steps.drop (k+1):=by rw[Z0 aa,aN _ _ _ aa]
  have pk:=H5 (P.gr (n:=k) aa) (prev:=prev) (St:=nth [] steps k) hpo aa aa (nth [] owns (k+1)) 0 (tb q3 hB1) (fun s hs=>⟨by grind,tb (s2 s hs).2 hB1⟩);have e3:B*p3 (k+1)=B*p3 k+B*p3 k+B*p3 k:=by simp only[p3,Zq]
  rw[<-e3]at pk;rw[e1,e2];intro r hr;simp only[vn]at hr;rcases Zo.1 hr with rfl|hr
  .exact tb pk (P.le aa)
  .exact P.pots d (k+1) _ aa (w8 ..) pk r hr
end
variable{a:Ad}
theorem jH(d:α)(f:Nat->α)(h:i<n):nth d ((List.range n).map f) i=f i:=by grind[aN]
theorem cI.pre(G:cI a):xA a.p a.w.2 1920000 (kG a) (gO a):=by
 obtain⟨w1,w2,w3,w4⟩:=G.w0;have h5:=G.five;have hcl:=G.cl;have hlen:=G.wk.len;refine⟨G.hp,w1.1,aa,by grind[kG],by grind[kG],aa,by simp[kG,gO],fun o h=>?_,fun k hk=>?_⟩
 .simp only[kG,Zc,X6]at h;obtain⟨k,hk,rfl⟩:=h;obtain⟨n1,n2⟩:=G.cn _ (aQ (d:=[]) hk);refine⟨by grind[mX],by grind[mX],fun r hr=>?_⟩
  grind[mX,ownW,qV]
 .simp only[kG,List.length_map,Y0]at hk;unfold kG gO;rw[jH _ _ (show k<a.cd.length by omega),jH _ _ (show k<a.cd.length by omega),jH _ _ hk];refine⟨by simp[ko,mX],fun ss hss=>?_⟩;simp only[ko,Zc,X6]at hss;obtain⟨i,hi,rfl⟩:=hss;refine⟨by simp[lV,mX],fun r hr=>?_⟩
  simp only[lV,Zc,X6]at hr;obtain⟨j,hj,rfl⟩:=hr;exact G.stepW (i:=k) aa hi hj
def dL(a:Ad):List LLQ:=mX a 0::vn a.p (mX a 0) ((kG a).drop 1) (gO a)
theorem EQ(G:cI a):kG a=mX a 0::(kG a).drop 1:=by have h5:=G.five;have hcl:=G.cl;have hlen:=G.wk.len;obtain⟨n,hn⟩:∃n,a.cd.length=n+1:=⟨a.cd.length-1,aa⟩;simp[kG,hn,List.range_succ_eq_map]
theorem cI.pots(G:cI a):∀r∈vn a.p (mX a 0) ((kG a).drop 1) (gO a),okR a.p 200000000 r:=by
 have P:=G.pre;have ne:=P.ne;have e0:nth [] (kG a) 0=mX a 0:=by rw[EQ G];rfl
 have:=P.pots ((kG a).length-1) 0 (mX a 0) aa (by rw[e0]) (by
  rw[<-e0];have:=(P.ho _ (aQ (d:=[]) ne)).2.2;trivial)
 trivial
def grD(a:Ad):LdQ:=gD a.p (ia a.w.2 (kG a)) (lK a.w.2 (gO a))
theorem HC(G:cI a):CP Y F.ip [.agg (adC a)] (.tup [.d (ia a.w.2 (dL a)),I 0]):=by
 refine wJ ?_;have ck:=G.check;have we:=SJ G (h:=[adB a,nnQ]) rfl;have po:CP Y F.bQ [.dptr (gD a.p (ia a.w.2 (kG a)) (lK a.w.2 (gO a))) 0] (.tup [.d (ia a.w.2 (dL a)),I 0]):=Ft G.pre.cost (EQ G) G.pots;have bx:=xy (a:=a) 0 [nnQ,nnQ] [adB a,nnQ] rfl rfl
 have l6:ldA [adB a,nnQ] 6 (.ptr 0 1 0 6)=some (.agg (adC a)):=rfl
 have sn:aS ([adB a,nnQ].set 1 (0+1,.vars ((gD a.p (ia a.w.2 (kG a)) (lK a.w.2 (gO a))).map .d))) [.ptr 1 (0+1) 0 (gD a.p (ia a.w.2 (kG a)) (lK a.w.2 (gO a))).length]=some ([.dptr (gD a.p (ia a.w.2 (kG a)) (lK a.w.2 (gO a))) 0],[adB a,(1,.data 1 (gD a.p (ia a.w.2 (kG a)) (lK a.w.2 (gO a))) false true)]):=rfl
 simp[ip,bx,l6];refine cd ck ?_;simp[l6];refine jC (XT (e:=0) (b:=.none) we rfl ?_);simp;refine cdz sn po ?_;rw[show fN (V.tup [V.d (ia a.w.2 (dL a)),I 0])=false from rfl,if_neg ae];simp;exact aG rfl rfl
theorem OJ(hu:(h.all fun x=>bW h.length x.2)=true){l:List Q}(hl:0<l.length)(hb:l.length<1000000000):CI Y F.aM [szV l] h (.new 2 ((l.map tx).flatMap aK) false l.length l.length) h:=by
 refine nP ?_;have fl:((l.map tx).flatMap aK).length=l.length*2:=by rw[d6 aK bv,List.length_map]
 have e:szV l=.d (.sl l.length ((l.map tx).flatMap aK)):=by unfold szV qm;rw[List.length_map]
 rw[e];generalize(l.map tx).flatMap aK=cells at *
 have nl:∀(H:Hp)(k:V->Prop)(u:PU k),rn (rj H .eql (.d (.sl l.length cells)) (.d nPQ)) k u=k (.d (.bool false)):=fun H k u=>by
  obtain⟨m,hm⟩:∃m,l.length=m+1:=⟨l.length-1,aa⟩;rw[hm];rfl
 simp[aM,nl]
 have hli:cO 0 [D.str [],D.str []] [] (h++[(0,Bk.none),(0,Bk.none)])=some ([],h++[(0,Bk.none),(0,Bk.none)]):=by
  simp[cO,jv,iH]
 rw[hli];simp;refine x8 (z:=[]) ae hl aa aa ?_;refine⟨af,?_,.inr (.inr (.inl ⟨h.length+1,1,l.length,l.length,2,cells,false,af,aa,by simp[aw],rfl⟩))⟩;simp only[Yp,hu,Zg]
 try simp[bW]
def tC(p:LiQ)(cs:LLQ):Nat->Nat->LLQ->Nat
 |b,_,[]=>b
 |b,i,c::q=>tC p cs (if wI p c<wI p (nth [] cs b)then i else b) (i+1) q
def rU(p:LiQ)(cs:LLQ):Nat:=tC p cs 0 0 cs
theorem M2{p:LiQ}{cs:LLQ}:∀(q:LLQ)(b i:Nat),b<cs.length->i+q.length<=cs.length->tC p cs b i q<cs.length
 |[],b,i,hb,_=>hb
 | c::q,b,i,hb,hi=>by
  simp only[List.length_cons]at hi;simp only[tC];refine M2 q _ _ ?_ aa
  grind
theorem yc{p:LiQ}(h:0<cs.length):rU p cs<cs.length:=M2 cs 0 0 h aa
def rA(a:Ad):List LLQ:=dQ a.p (kG a) (gO a)
def tB:Acc:=⟨2,0,1,.none⟩
def qS:Acc:=⟨3,0,1,.none⟩
def bsH(a:Ad)(s2 s3:Nat×Bk):Hp:=[adB a,(1,.data 1 (grD a) false true),s2,s3,nnQ]
theorem acY{p:LiQ}{b Bd:Nat}(hp:pcS p)(b0:0<b)(b1:b<1000000)(hB:Bd<1000000000000)(a:Ad)(O St:D)(eg:grD a=gD p O St){cs:LLQ}(hc:okR p Bd cs)(h0:0<cs.length)(hN:cs.length<1000000)(s3:Nat×Bk)(H0:Hp)(hh:H0.length=5)(K:KL) :
  ∀(q d:LLQ)(m:Nat),d++q=cs->m<cs.length ->
  K (.exit 4) [I (tC p cs m d.length q)] (bsH a (tB.b cs.length (cs.map (szE b))) s3) ->
  lp (mj (CX Y) (.ptr 1 1 0 3) (tB.v cs.length (cs.map (szE b))) (I cs.length)) [] H0 [I m,I d.length] (bsH a (tB.b cs.length (cs.map (szE b))) s3) K
 | [],d,m,hd,hm,hK=>by
  have e:d.length=cs.length:=by rw[<-hd];simp
  refine aj ?_;simp[mj,e];exact hK
 | c::q,d,m,hd,hm,hK=>by
  have e1:cs.length=d.length+(q.length+1):=by rw[<-hd];simp
  have rc:=hc c (by grind);have rm:=hc _ (aQ (d:=[]) hm);have hnc:nth [] cs d.length=c:=by rw[<-hd,bM]
  have le:=Mc hp O St b0 b1 rc.1 rm.1 rc.2 rm.2 hB hB;rw[<-eg]at le;obtain⟨n,hn⟩:∃n,cs.length=n+1:=⟨cs.length-1,aa⟩;have hs:(bsH a (tB.b cs.length (cs.map (szE b))) s3)[2]?=some (1,.data 1 (cs.map (szE b)) false false):=by rw[hn];rfl
  have hv:tB.v cs.length (cs.map (szE b))=.ref 2 1 0 cs.length cs.length cs.length:=by
   have:(cs.map (szE b)).length=cs.length:=List.length_map _
   conv=>lhs;rw[hn]
   simp only[Acc.v,tB,this,hn]
  have x1:=ixB (f:=szE b) hs rfl (i:=d.length) aa .i64;have x2:=ldB (f:=szE b) [] hs rfl (i:=d.length) aa;rw[hnc]at x2;have y1:=ixB (f:=szE b) hs rfl (i:=m) hm .i64;have y2:=ldB (f:=szE b) [] hs rfl (i:=m) hm
  have ih:=acY hp b0 b1 hB a O St eg hc h0 hN s3 H0 hh K q (d++[c]) (if wI p c<wI p (nth [] cs m)then d.length else m) (by grind) (by split<;>omega) (by
   have e:(d++[c]).length=d.length+1:=af;rw[e];exact hK)
  have e3:((d++[c]).length:Int)=(d.length:Int)+1:=af;rw[e3]at ih;have sn:aS (bsH a (tB.b cs.length (cs.map (szE b))) s3) [.ptr 1 1 0 3,.d (szE b c),.d (szE b (nth [] cs m))]=some ([.dptr (grD a) 0,.d (szE b c),.d (szE b (nth [] cs m))],bsH a (tB.b cs.length (cs.map (szE b))) s3):=by rfl
  have hre:au [] 0 H0 (bsH a (tB.b cs.length (cs.map (szE b))) s3)=bsH a (tB.b cs.length (cs.map (szE b))) s3:=aX 0 H0 _ (by rw[hh];rfl);rw[hv]at ih ⊢;generalize bsH a (tB.b cs.length (cs.map (szE b))) s3=H at *
  have xe:∀(i:Nat),ixX (fh H 2 1) 1 2 1 0 cs.length cs.length (i:Int)=ixV H 1 (.ref 2 1 0 cs.length cs.length cs.length) (I i):=fun i=>by
   rfl
  have x1':=(xe _).trans x1;have y1':=(xe _).trans y1;have x2':=(mu _ _ _ _ _).symm.trans x2;have y2':=(mu _ _ _ _ _).symm.trans y2;have g:(d.length:Int)<cs.length:=aa;refine aj ?_;simp[mj,g];refine aT ?_;simp[x1,x1',x2,x2',y1,y1',y2,y2'];refine cdz sn le ?_;rw[show ∀x:Bool,fN (B x)=true from fun _=>rfl,if_pos rfl];by_cases gw:wI p c<wI p (nth [] cs m)
  .rw[if_pos gw]at ih;simp[gw];refine aT ?_;simp(disch:=try exact ag)[hre];exact ih
  .rw[if_neg gw]at ih;simp[gw];refine aT ?_;simp(disch:=try exact ag)[hre];exact ih
theorem Bt(p:LiQ):∀(m:Nat)(l:List LLQ)(s:List (List LLQ)),m<l.length->l.length<=s.length->nth [] (dQ p l s) m=(dQ p (l.drop m) (s.drop m)).headD []
 | 0,l,s,_,_=>by
  rw[Zj,Zj];cases dQ p l s<;>rfl
 |m+1,[],s,h,_=>by rfl
 |m+1,[o],s,h,_=>by simp at h
 |m+1,o::o2::os,[],_,h=>by simp at h
 | m+1,o::o2::os,ss::sss,h,h2=>by
  have:=Bt p m (o2::os) sss (by grind) (by grind);trivial
section
variable{p:LiQ}{b B:Nat}{owns:List LLQ}{steps:List (List LLQ)}
theorem xA.rest_at(P:xA p b B owns steps)(hm:m<owns.length):(nth [] (dQ p owns steps) m).length=(nth [] owns m).length∧okR p 200000000 (nth [] (dQ p owns steps) m):=by
 have hl:=P.hl;have five:=P.five;have mem:nth [] (dQ p owns steps) m∈dQ p owns steps:=aQ (d:=[]) (by grind[oI]);refine⟨?_,?_⟩
 .rw[Bt p m owns steps hm aa];by_cases h1:m+1<owns.length
  .have e1:owns.drop m=nth [] owns m::nth [] owns (m+1)::owns.drop (m+1+1):=by rw[Z0 hm,aN _ _ _ hm,Z0 h1,aN _ _ _ h1]
   have e2:steps.drop m=nth [] steps m::steps.drop (m+1):=by rw[Z0 aa,aN _ _ _ aa]
   grind[dQ,wZ,hs]
  .have e1:owns.drop m=[nth [] owns m]:=by rw[Z0 hm,aN _ _ _ hm,Xe aa]
   rw[e1];rfl
 .have:=P.rests (owns.length-1) 0 aa;rw[Zj,Zj]at this;exact tb (this _ mem).2.2 (P.le aa)
theorem ZM{x:LiQ}(hx:x.length=p.length∧bdN Bd x)(hy:y.length=p.length∧bdN Bd y):
  (sN (List.replicate p.length 0) [x,y]).length=p.length∧bdN (Bd+Bd) (sN (List.replicate p.length 0) [x,y]):=by simp only[sN];rw[sL 1 hx.1,Jk];exact⟨by rw[hQ _ aa,hx.1],lE hx.2 hy.2⟩
end
theorem mF(a:Ad):(kG a).length=a.cd.length:=by simp[kG]
theorem uW(a:Ad):(gO a).length=a.cd.length:=by simp[gO]
theorem w9(hk:k<a.cd.length):nth [] (kG a) k=mX a k:=by grind[kG,jH]
theorem G9(hk:k<a.cd.length):nth [] (gO a) k=ko a k:=by grind[gO,jH]
theorem Q7(hi:i<(nth [] a.cd k).length):nth [] (ko a k) i=lV a k i:=by grind[ko,jH]
theorem Q6(hj:j<(nth [] a.cd (k+1)).length):nth [] (lV a k i) j=stW a k i j:=by grind[lV,jH]
theorem PL(G:cI a)(hk:k<a.cd.length):(nth [] (rA a) k).length=(nth [] a.cd k).length∧okR a.p 200000000 (nth [] (rA a) k):=by
 obtain⟨h1,h2⟩:=G.pre.rest_at (m:=k) (by grind[mF])
 grind[rA,w9,mX]
def cst(a:Ad)(k c i:Nat):LiQ:=if k=0 then nth [] (nth [] (rA a) k) i else sN (List.replicate a.p.length 0) [stW a (k-1) c i,nth [] (nth [] (rA a) k) i]
def csC(a:Ad)(k c n:Nat):LdQ:=(List.range n).map fun i=>szE a.w.2 (cst a k c i)
theorem WY(a:Ad)(k c n:Nat):csC a k c (n+1)=csC a k c n++[szE a.w.2 (cst a k c n)]:=by simp[csC,Y3]
theorem aey(G:cI a)(hk:k<a.cd.length)(hc:k=0∨c<(nth [] a.cd (k-1)).length)(hi:i<(nth [] a.cd k).length):(cst a k c i).length=a.p.length∧bdN 400000000 (cst a k c i):=by
 obtain⟨r1,r2⟩:=PL G hk;have hcl:=G.cl;have hlen:=G.wk.len;have rr:=r2 _ (aQ (d:=[]) (show i<(nth [] (rA a) k).length by omega));unfold cst;by_cases h:k=0
 .grind[qV]
 .rw[if_neg h];obtain⟨m,rfl⟩:∃m,k=m+1:=⟨k-1,aa⟩;have:=G.stepW (i:=m) (f:=c) (t:=i) aa (hc.resolve_left h) hi;exact ZM (Bd:=200000000) ⟨this.1,qV this.2 aa⟩ rr
theorem E4(A:Acc)(L:Nat)(c:LdQ):bj (A.v L c)=some (I L):=by cases L<;>rfl
theorem acZ(G:cI a){k c:Nat}(hk:k<a.cd.length)(hc:k=0∨c<(nth [] a.cd (k-1)).length){ch:V}{s3:Nat×Bk}(hch:0<k->∀s2,∃w,ixV (bsH a s2 s3) 1 ch (I ((k:Int)-1))=some w∧ld1 (bsH a s2 s3) w=some (I c))(H0:Hp)(hh:H0.length=5)(K:KL) :
  ∀(m i:Nat),i+m=(nth [] a.cd k).length->K (.exit 2) [ch,tB.v (nth [] a.cd k).length (csC a k c (nth [] a.cd k).length)] (bsH a (tB.b (nth [] a.cd k).length (csC a k c (nth [] a.cd k).length)) s3) ->
  lp (jy (CX Y) (.ptr 1 1 0 3) (I k) (.d (szL a.w.2 (nth [] (rA a) k))) (I (nth [] a.cd k).length)) [] H0 [ch,tB.v i (csC a k c i),I i] (bsH a (tB.b i (csC a k c i)) s3) K
 | 0,i,hi,hK=>by
  have ei:(nth [] a.cd k).length=i:=aa;rw[ei]at hK ⊢;refine aj ?_;simp[jy];exact hK
 | m+1,i,hi,hK=>by
  have h5:=G.five;have hcl:=G.cl;have hlen:=G.wk.len;obtain⟨w1,w2,w3,w4⟩:=G.w0;have hn20:(nth [] a.cd k).length<=20:=(G.cn _ (aQ (d:=[]) hk)).2;obtain⟨r1,r2⟩:=PL G hk;have ih:=acZ G hk hc hch H0 hh K m (i+1) aa hK;rw[WY]at ih
  have i1:∀H:Hp,ixV H 1 (.d (szL a.w.2 (nth [] (rA a) k))) (I i)=some (.dptr ((nth [] (rA a) k).map fun r=>szD (szI a.w.2 r)) i):=fun H=>aJ (fun r=>szD (szI a.w.2 r)) _ H rfl aa
  have i2:∀H:Hp,ld1 H (.dptr ((nth [] (rA a) k).map fun r=>szD (szI a.w.2 r)) i)=some (szV (szI a.w.2 (nth [] (nth [] (rA a) k) i))):=fun H=>aC (fun r=>szD (szI a.w.2 r)) [] _ H aa
  have g:(i:Int)<(nth [] a.cd k).length:=aa;have c1:(csC a k c i).length=i*1:=by simp[csC]
  have li:∀x H,cO 1 [nPQ] [(0,szV (szI a.w.2 x))] H=some ([szE a.w.2 x],H):=fun x H=>by
   rfl
  have hre:∀s,au [] 0 H0 (bsH a s s3)=bsH a s s3:=fun s=>aX 0 H0 _ (by rw[hh];rfl)
  have g2:biI .add (I i) (.d (.int .i64 1))=some (I ((i+1:Nat):Int)):=wE aa
  have fin:∀(q:kkQ)(u:PU q),q (tB.v (i+1) (csC a k c i++[szE a.w.2 (cst a k c i)])) (bsH a (tB.b (i+1) (csC a k c i++[szE a.w.2 (cst a k c i)])) s3)->rh (apV false 2 1 24 (tB.v i (csC a k c i)) (.d (.sl 1 [szE a.w.2 (cst a k c i)])) (bsH a (tB.b i (csC a k c i)) s3)) q u:=fun q u hq=>
   hO tB (L:=i) (k:=1) (cells:=csC a k c i) (cs:=[szE a.w.2 (cst a k c i)]) aa rfl c1 rfl rfl (fun t e=>by cases e) aa ae hq
  obtain⟨s2,hs2⟩:∃s,s=tB.b i (csC a k c i):=⟨_,rfl⟩;obtain⟨v2,hv2⟩:∃s,s=tB.v i (csC a k c i):=⟨_,rfl⟩;rw[<-hs2,<-hv2]at fin ⊢;refine aj ?_;by_cases h0:k=0
  .subst h0;have ec:cst a 0 c i=nth [] (nth [] (rA a) 0) i:=rfl;rw[ec]at fin ih;simp[jy,g,i1,i2];refine aT ?_;simp[li]
   simp_all
  .obtain⟨l,rfl⟩:∃l,k=l+1:=⟨k-1,aa⟩;have hcl':c<(nth [] a.cd l).length:=hc.resolve_left h0;have hl:l<a.cd.length:=aa;have ec:cst a (l+1) c i=sN (List.replicate a.p.length 0) [stW a l c i,nth [] (nth [] (rA a) (l+1)) i]:=rfl;have sw:=G.stepW (i:=l) (f:=c) (t:=i) aa hcl' aa;have rr:=r2 _ (aQ (d:=[]) (show i<(nth [] (rA a) (l+1)).length by omega))
   have ga:=Qs G.hp (ia a.w.2 (kG a)) (lK a.w.2 (gO a)) w1.1 aa (B:=200000000) aa (m:=[stW a l c i,nth [] (nth [] (rA a) (l+1)) i]) (fun d hd=>by
    grind[qV]) af
   rw[<-ec]at ga;obtain⟨w,x1,x2⟩:=hch aa s2;have el:((l+1:Nat):Int)-1=(l:Int):=aa;rw[el]at x1;have f2:ld1 (bsH a s2 s3) (.ptr 1 1 2 3)=some (.d (lK a.w.2 (gO a))):=rfl;have f2':=(mu _ _ _ _ _).symm.trans f2;have j1:∀H:Hp,ixV H 1 (.d (lK a.w.2 (gO a))) (I l)=some (.dptr ((gO a).map (ia a.w.2)) l):=fun H=>aJ (ia a.w.2) _ H rfl (by grind[uW])
   have j2:∀H:Hp,ld1 H (.dptr ((gO a).map (ia a.w.2)) l)=some (.d (ia a.w.2 (ko a l))):=fun H=>by rw[aC (ia a.w.2) [] _ H (by grind[uW]),G9 hl]
   have j3:∀H:Hp,ixV H 1 (.d (ia a.w.2 (ko a l))) (I c)=some (.dptr ((ko a l).map (szL a.w.2)) c):=fun H=>aJ (szL a.w.2) _ H rfl (by grind[ko])
   have j4:∀H:Hp,ld1 H (.dptr ((ko a l).map (szL a.w.2)) c)=some (.d (szL a.w.2 (lV a l c))):=fun H=>by rw[aC (szL a.w.2) [] _ H (by grind[ko]),Q7 hcl']
   have j5:∀H:Hp,ixV H 1 (.d (szL a.w.2 (lV a l c))) (I i)=some (.dptr ((lV a l c).map fun r=>szD (szI a.w.2 r)) i):=fun H=>aJ (fun r=>szD (szI a.w.2 r)) _ H rfl (by grind[lV])
   have j6:∀H:Hp,ld1 H (.dptr ((lV a l c).map fun r=>szD (szI a.w.2 r)) i)=some (szV (szI a.w.2 (stW a l c i))):=fun H=>by rw[aC (fun r=>szD (szI a.w.2 r)) [] _ H (by grind[lV]),Q6 aa];rfl
   have li3:∀H,cO 2 [nPQ] [(0,szV (szI a.w.2 (stW a l c i))),(1,szV (szI a.w.2 (nth [] (nth [] (rA a) (l+1)) i)))] H=some ([szD (szI a.w.2 (stW a l c i)),szD (szI a.w.2 (nth [] (nth [] (rA a) (l+1)) i))],H):=fun H=>by
    rfl
   have sn:aS (bsH a s2 s3) [.ptr 1 1 0 3,.d (.sl 2 [szD (szI a.w.2 (stW a l c i)),szD (szI a.w.2 (nth [] (nth [] (rA a) (l+1)) i))])]=some ([.dptr (gD a.p (ia a.w.2 (kG a)) (lK a.w.2 (gO a))) 0,lst szD ([stW a l c i,nth [] (nth [] (rA a) (l+1)) i].map (szI a.w.2))],bsH a s2 s3):=by rfl
   have gl:(0:Int)<((l+1:Nat):Int):=aa;simp[jy,g,gl,i1,i2];refine aT ?_;simp(disch:=try exact ag)[el,f2,f2',j1,j2,x1,x2,j3,j4,j5,j6,li3];refine cdx sn ga ?_;simp;simp[li]
   simp_all
def mf(a:Ad)(k c:Nat):LLQ:=(List.range (nth [] a.cd k).length).map (cst a k c)
theorem aez(a:Ad)(k c:Nat):(mf a k c).map (szE a.w.2)=csC a k c (nth [] a.cd k).length:=by simp[mf,csC]
def vU(a:Ad):Nat->Nat->Nat->LnQ
 |0,_,_=>[]
 |m+1,k,c=>rU a.p (mf a k c)::vU a m (k+1) (rU a.p (mf a k c))
def fV(a:Ad):LnQ:=vU a a.cd.length 0 0
def dn(n:Nat):D:=di (n:Int)
theorem Vo(z:Int)(H:Hp):cO 1 [D.int IntKind.i64 0] [(0,I z)] H=some ([di z],H):=by rfl
theorem ac0(G:cI a)(H0:Hp)(hh:∃s3,H0=bsH a nnQ s3)(K:KL) :
  ∀(m:Nat)(cs:LnQ)(c:Nat),cs.length+m=a.cd.length->(∀x l,cs=l++[x]->x=c)->(0<cs.length->c<(nth [] a.cd (cs.length-1)).length) ->
  (K (.exit 0) [qS.v a.cd.length ((cs++vU a m cs.length c).map dn)] (bsH a nnQ (qS.b a.cd.length ((cs++vU a m cs.length c).map dn)))) ->
  lp (mp (CX Y) (.ptr 1 1 0 3) (.d (ia a.w.2 (rA a))) (I (rA a).length)) [2] H0 [qS.v cs.length (cs.map dn),I cs.length] (bsH a nnQ (qS.b cs.length (cs.map dn))) K
 | 0,cs,c,hk,_,_,hK=>by
  have hr:(rA a).length=a.cd.length:=by unfold rA;rw[oI,mF]
  have e:(rA a).length=cs.length:=aa;simp only[vU,Y8]at hK;have e2:a.cd.length=cs.length:=aa;rw[e2]at hK;rw[e];refine aj ?_;simp[mp];exact hK
 | m+1,cs,c,hk,hc1,hc2,hK=>by
  have hr:(rA a).length=a.cd.length:=by unfold rA;rw[oI,mF]
  have h5:=G.five;have hcl:=G.cl;have hkc:cs.length<a.cd.length:=aa;obtain⟨w1,w2,w3,w4⟩:=G.w0;obtain⟨n0,hn20⟩:=G.cn _ (aQ (d:=[]) hkc);obtain⟨r1,r2⟩:=PL G hkc
  have hcc:cs.length=0∨c<(nth [] a.cd (cs.length-1)).length:=by
   by_cases h:cs.length=0
   .omega
   .exact .inr (hc2 aa)
  have i1:∀H:Hp,ixV H 1 (.d (ia a.w.2 (rA a))) (I cs.length)=some (.dptr ((rA a).map (szL a.w.2)) cs.length):=fun H=>aJ (szL a.w.2) _ H rfl aa
  have i2:∀H:Hp,ld1 H (.dptr ((rA a).map (szL a.w.2)) cs.length)=some (.d (szL a.w.2 (nth [] (rA a) cs.length))):=fun H=>aC (szL a.w.2) [] _ H aa
  have lm:bj (.d (szL a.w.2 (nth [] (rA a) cs.length)))=some (I (nth [] a.cd cs.length).length):=by rw[<-r1];rfl
  have g:(cs.length:Int)<(rA a).length:=aa;have ckl:(mf a cs.length c).length=(nth [] a.cd cs.length).length:=by simp[mf]
  have hlt:=yc (p:=a.p) (cs:=mf a cs.length c) aa;have l1:=fun(ch:V)(s3:Nat×Bk) (hch) (K2)=>acZ G hkc hcc (ch:=ch) (s3:=s3) hch (bsH a nnQ s3) rfl K2 (nth [] a.cd cs.length).length 0 (Zp _)
  have okc:okR a.p 400000000 (mf a cs.length c):=fun r hr=>by
   grind[mf,aey]
  have l2:=fun(s3:Nat×Bk)(H:Hp)(hH:H.length=5)(K2:KL)=>acY G.hp w1.1 aa (Bd:=400000000) aa a (ia a.w.2 (kG a)) (lK a.w.2 (gO a)) rfl okc aa aa s3 H hH K2 (mf a cs.length c) [] 0 rfl aa
  rw[ckl,aez]at l2;have hl3:(cs.map dn).length=cs.length*1:=af
  have hch:0<cs.length->∀s2,∃w,ixV (bsH a s2 (qS.b cs.length (cs.map dn))) 1 (qS.v cs.length (cs.map dn)) (I ((cs.length:Int)-1))=some w∧ld1 (bsH a s2 (qS.b cs.length (cs.map dn))) w=some (I c):=fun hp s2=>by
   obtain⟨n,hn⟩:∃n,cs.length=n+1:=⟨cs.length-1,aa⟩;have hs:(bsH a s2 (qS.b cs.length (cs.map dn)))[3]?=some (1,.data 1 (cs.map dn) false false):=by rw[hn];rfl
   have hv:qS.v cs.length (cs.map dn)=.ref 3 1 0 cs.length cs.length cs.length:=by
    have:(cs.map dn).length=cs.length:=List.length_map _
    conv=>lhs;rw[hn]
    simp only[Acc.v,qS,this,hn]
   have x1:=ixB (f:=dn) hs rfl (i:=cs.length-1) aa .i64;have x2:=ldB (f:=dn) 0 hs rfl (i:=cs.length-1) aa
   have ec:nth 0 cs (cs.length-1)=c:=by
    have hne:cs≠[]:=by rintro rfl;simp at hp
    have e:cs=cs.dropLast++[cs.getLast hne]:=(List.dropLast_concat_getLast hne).symm;have e2:(cs.dropLast).length=cs.length-1:=List.length_dropLast;rw[<-hc1 _ _ e,<-e2]
    conv=>lhs;arg 2;rw[e]
    exact bM ..
   rw[ec]at x2;have ei:((cs.length-1:Nat):Int)=(cs.length:Int)-1:=aa;rw[ei]at x1;rw[hv];exact⟨_,x1,x2⟩
  have ih:=ac0 G H0 hh K m (cs++[rU a.p (mf a cs.length c)]) (rU a.p (mf a cs.length c)) (by grind) (fun x l e=>by
   grind [List.append_inj_right']) (fun _=>by simpa using by omega) (by
    have e:(cs++[rU a.p (mf a cs.length c)]).length=cs.length+1:=af
    grind[vU])
  refine aj ?_;simp[mp,g,i1,i2,lm];refine lo (l1 _ _ hch _ ?_);have la:bj (tB.v (nth [] a.cd cs.length).length (csC a cs.length c (nth [] a.cd cs.length).length))=some (I (nth [] a.cd cs.length).length):=E4 ..;obtain⟨v3,hv3⟩:∃s,s=qS.v cs.length (cs.map dn):=⟨_,rfl⟩;obtain⟨s3,hs3⟩:∃s,s=qS.b cs.length (cs.map dn):=⟨_,rfl⟩
  have fin:∀(x:D)(s2:Nat×Bk)(q:kkQ)(u:PU q),q (qS.v (cs.length+1) (cs.map dn++[x])) (bsH a s2 (qS.b (cs.length+1) (cs.map dn++[x])))->rh (apV false 3 1 8 v3 (.d (.sl 1 [x])) (bsH a s2 s3)) q u:=fun x s2 q u hq=>by
   rw[hv3,hs3];exact hO qS (L:=cs.length) (k:=1) (cells:=cs.map dn) (cs:=[x]) aa rfl hl3 rfl rfl (fun t e=>by cases e) aa ae hq
  rw[<-hv3,<-hs3];simp[la];refine lo (l2 _ _ rfl _ ?_);simp[Vo];refine fin _ _ _ .mk ?_;have g2:biI .add (I cs.length) (.d (.int .i64 1))=some (I ((cs.length+1:Nat):Int)):=wE aa
  show bnd _ _
  rw[g2];obtain⟨y,rfl⟩:=hh;have o1:∀L c,kH [2] (qS.v L c)=true:=fun L c=>oe _ _ _ _ rfl
  have o3:∀L c,offB [2] (qS.b L c).2=true:=fun L c=>fO _ _ _ _ rfl
  have oa:offB [2] (adB a).2=true:=rfl;refine⟨?_,?_⟩
  .rfl
  .have er:∀s2 s3,au [2] 0 (bsH a nnQ y) (bsH a s2 s3)=bsH a nnQ s3:=fun _ _=>rfl
   rw[er];have ed:cs.map dn++[di (tC a.p (mf a cs.length c) 0 0 (mf a cs.length c):Nat)]=(cs++[rU a.p (mf a cs.length c)]).map dn:=by simp[dn,rU]
   have el:(cs++[rU a.p (mf a cs.length c)]).length=cs.length+1:=af
   grind
theorem Ce(a:Ad):∀(m k c:Nat),(vU a m k c).length=m
 |0,_,_=>rfl
 |m+1,k,c=>by simp only[vU,List.length_cons,Ce a m]
def k8(a:Ad):LiQ:=nth [] (nth [] (rA a) 0) (nth 0 (fV a) 0)
theorem QW(G:cI a):CP Y F.gH [.agg (adC a)] (.tup [.d (.sl a.cd.length ((fV a).map dn)),szV (szI a.w.2 (k8 a)),I 0]):=by
 refine A0 ?_;have h5:=G.five;have hcl:=G.cl;have hlen:=G.wk.len;obtain⟨hin,hp0⟩:=eh G.hp;have hNp:=hin.2.1;have ck:=G.check;have we:=SJ G (h:=[adB a,nnQ,nnQ,nnQ,nnQ]) rfl;have re:CP Y F.cE [.dptr (grD a) 0] (.tup [.d (ia a.w.2 (rA a)),I 0]):=Ua G.pre.cost
 have bx:=xy (a:=a) 0 [nnQ,nnQ,nnQ,nnQ,nnQ] [adB a,nnQ,nnQ,nnQ,nnQ] rfl rfl;have l6:ldA [adB a,nnQ,nnQ,nnQ,nnQ] 6 (.ptr 0 1 0 6)=some (.agg (adC a)):=rfl
 have sn:aS ([adB a,nnQ,nnQ,nnQ,nnQ].set 1 (0+1,.vars ((grD a).map .d))) [.ptr 1 (0+1) 0 (grD a).length]=some ([.dptr (grD a) 0],bsH a nnQ nnQ):=rfl;have lR:bj (.d (ia a.w.2 (rA a)))=some (I (rA a).length):=rfl;have hr:(rA a).length=a.cd.length:=by unfold rA;rw[oI,mF]
 have h0c:0<a.cd.length:=aa;obtain⟨r1,r2⟩:=PL G h0c;obtain⟨n,hn⟩:∃n,a.cd.length=n+1:=⟨a.cd.length-1,aa⟩;have bl:(fV a).length=a.cd.length:=Ce ..
 have b0:nth 0 (fV a) 0<(nth [] (rA a) 0).length:=by
  have:nth 0 (fV a) 0=rU a.p (mf a 0 0):=by unfold fV;rw[hn];rfl
  rw[this,r1];have hlt:=yc (p:=a.p) (cs:=mf a 0 0) (by grind[cI.cn,aQ,mf]);simpa[mf]using hlt
 have rr:=r2 _ (aQ (d:=[]) b0);have i1:∀H:Hp,ixV H 1 (.d (ia a.w.2 (rA a))) (.d (.int .i64 0))=some (.dptr ((rA a).map (szL a.w.2)) 0):=fun H=>aJ (szL a.w.2) _ H rfl aa
 have i2:∀H:Hp,ld1 H (.dptr ((rA a).map (szL a.w.2)) 0)=some (.d (szL a.w.2 (nth [] (rA a) 0))):=fun H=>aC (szL a.w.2) [] _ H aa
 have i3:∀H:Hp,ixV H 1 (.d (szL a.w.2 (nth [] (rA a) 0))) (I (nth 0 (fV a) 0:Nat))=some (.dptr ((nth [] (rA a) 0).map fun r=>szD (szI a.w.2 r)) (nth 0 (fV a) 0)):=fun H=>aJ (fun r=>szD (szI a.w.2 r)) _ H rfl b0
 have i4:∀H:Hp,ld1 H (.dptr ((nth [] (rA a) 0).map fun r=>szD (szI a.w.2 r)) (nth 0 (fV a) 0))=some (szV (szI a.w.2 (k8 a))):=fun H=>aC (fun r=>szD (szI a.w.2 r)) [] _ H b0
 have hs:(bsH a nnQ (qS.b a.cd.length ((fV a).map dn)))[3]?=some (1,.data 1 ((fV a).map dn) false false):=by rw[hn];rfl
 have hv:qS.v a.cd.length ((fV a).map dn)=.ref 3 1 0 a.cd.length a.cd.length a.cd.length:=by
  have:((fV a).map dn).length=a.cd.length:=by rw[List.length_map,bl]
  conv=>lhs;rw[hn]
  simp only[Acc.v,qS,this,hn]
 have x1:=ixB (f:=dn) hs bl (i:=0) h0c .i64;have x2:=ldB (f:=dn) 0 hs bl (i:=0) h0c;have csz:=OJ (h:=bsH a nnQ (qS.b a.cd.length ((fV a).map dn))) (l:=szI a.w.2 (k8 a)) (by rw[hn];rfl) (by grind[ci,k8]) (by grind[ci,k8])
 have main:=ac0 G (bsH a nnQ nnQ) ⟨_,rfl⟩ (exK [(Exit.exit 0,fun l15 h=>
   bnd (ixV h 1 (.d (ia a.w.2 (rA a))) (.d (.int .i64 0))) fun v16=>
   bnd (ld1 h v16) fun v17=>
   bnd (ixV h 1 (ge l15 0) (.d (.int .i64 0))) fun v18=>
   bnd (ld1 h v18) fun v19=>
   bnd (ixV h 1 v17 v19) fun v20=>
   bnd (ld1 h v20) fun v21=>
   cai (CX Y).i h (.fn F.aM [] []) [v21] 4 fun v22 h=>
   out (.tup [.d (.sl a.cd.length ((fV a).map dn)),szV (szI a.w.2 (k8 a)),I 0]) (.tup [(ge l15 0),v22,(.d (.int .i64 0))]) h),
   (.ret,fun l15 h=>out (.tup [.d (.sl a.cd.length ((fV a).map dn)),szV (szI a.w.2 (k8 a)),I 0]) (.tup [(ge l15 1),(ge l15 2),(ge l15 0)]) h)]) a.cd.length [] 0 af (fun x l e=>by simp at e) (fun h=>by simp at h) (by
  rw[List.nil_append]
  show exK _ _ [qS.v a.cd.length ((fV a).map dn)] (bsH a nnQ (qS.b a.cd.length ((fV a).map dn)))
  rw[hv];have e0:((0:Nat):Int)=0:=rfl;rw[e0]at x1;have e1:V.d (dn (nth 0 (fV a) 0))=I (nth 0 (fV a) 0:Nat):=rfl;rw[e1]at x2;generalize hH:bsH a nnQ (qS.b a.cd.length ((fV a).map dn))=H at *;simp only[iP,DJ,i1,AW,i2,x1,x2,i3,i4];refine fe (e:=0) (b:=.none) csz (by rw[<-hH];rfl) ?_
  have fl:(((szI a.w.2 (k8 a)).map tx).flatMap aK).length=(szI a.w.2 (k8 a)).length*2:=by rw[d6 aK bv,List.length_map]
  have e4:V.d (.sl (szI a.w.2 (k8 a)).length (((szI a.w.2 (k8 a)).map tx).flatMap aK))=szV (szI a.w.2 (k8 a)):=by unfold szV qm;rw[List.length_map]
  rw[<-e4,<-hH];generalize((szI a.w.2 (k8 a)).map tx).flatMap aK=cells at *;generalize(szI a.w.2 (k8 a)).length=len at *;have bl':((fV a).map dn).length=a.cd.length:=by rw[List.length_map,bl]
  generalize(fV a).map dn=bc at *;refine⟨[adB a,(1,.data 1 (grD a) false true),nnQ,(1,.data 1 bc false true),(1,.data 2 cells false true)],?_⟩
  show bJ _ (.tup [.ref 3 1 0 a.cd.length a.cd.length a.cd.length,.ref 4 1 0 len len cells.length,I 0])=_
  have t1:toD ((bsH a nnQ (qS.b a.cd.length bc)).set 4 (0+1,.data 2 cells false false)) (.ref 3 1 0 a.cd.length a.cd.length a.cd.length)=some (.sl a.cd.length bc,[adB a,(1,.data 1 (grD a) false true),nnQ,(1,.data 1 bc false true),(1,.data 2 cells false false)]):=by
   have hg:aw ((bsH a nnQ (qS.b a.cd.length bc)).set 4 (0+1,.data 2 cells false false)) 3 1=.data 1 bc false false:=by rw[hn];rfl
   simp only[toD,hg];rw[if_pos ⟨bl'.symm,Z7 _,aa⟩];simp only[Zj,Yc];rw[Z6 aa];congr 2
  have t2:toD [adB a,(1,.data 1 (grD a) false true),nnQ,(1,.data 1 bc false true),(1,.data 2 cells false false)] (.ref 4 1 0 len len cells.length)=some (.sl len cells,[adB a,(1,.data 1 (grD a) false true),nnQ,(1,.data 1 bc false true),(1,.data 2 cells false true)]):=by
   have hg:aw [adB a,(1,.data 1 (grD a) false true),nnQ,(1,.data 1 bc false true),(1,.data 2 cells false false)] 4 1=.data 2 cells false false:=rfl;simp only[toD,hg];rw[if_pos ⟨trivial,Z7 _,aa⟩];simp only[Zj];rw[Z6 aa];rfl
  simp_all[bJ,aS])
 simp[gH,bx,l6];refine cd ck ?_;simp[l6];refine jC (XT (e:=0) (b:=.none) we rfl ?_);simp;refine cdz sn re ?_;rw[show fN (V.tup [V.d (ia a.w.2 (rA a)),I 0])=false from rfl,if_neg ae];simp[lR];exact main
def IsL(M:Int)(n:Nat)(f:Nat->Int):Prop:=(∃i,i<n∧f i=M)∧∀i,i<n->M<=f i
theorem MW{m n:Nat}{o p r p' r' o':Nat->Int}{e:Nat->Nat->Int}{M:Int}
  (hp:∀j,j<n->IsL (p' j) m fun i=>p i+e i j+o' j) (hr:∀i,i<m->IsL (r i) n fun j=>o i+e i j+r' j)
  (h:IsL M m fun i=>p i+r i-o i):IsL M n fun j=>p' j+r' j-o' j:=by
 obtain⟨⟨i,hi,e1⟩,hl⟩:=h;dsimp only[IsL]at hp hr hl e1 ⊢
 have low:∀j,j<n->M<=p' j+r' j-o' j:=fun j hj=>by
  obtain⟨⟨k,hk,e2⟩,_⟩:=hp j hj;have h1:=(hr k hk).2 j hj;have h2:=hl k hk;omega
 obtain⟨⟨j,hj,e2⟩,_⟩:=hr i hi;refine⟨⟨j,hj,?_⟩,low⟩;have h1:=(hp j hj).2 i hi;have h2:=low j hj;omega
variable{p own:LiQ}
theorem Ow(ho:own.length=p.length)(hs:s.length=p.length)(ht:t.length=p.length):wI p (sN (List.replicate p.length 0) [own,s,t])=wI p own+wI p s+wI p t:=by simp only[sN];rw[sL 1 ho,Jk];unfold wI;rw[FB _ (by rw[hQ _ aa];omega),FB _ aa];omega
theorem ET(ho:own.length=p.length):∀(ss bs:LLQ)(m:Option LiQ)(x:LiQ),(∀s∈ss,s.length=p.length)->(∀s∈bs,s.length=p.length)->CR p m own (List.replicate p.length 0) ss bs=some x ->
  (m=some x∨∃i,i<ss.length∧i<bs.length∧wI p own+wI p (nth [] ss i)+wI p (nth [] bs i)=wI p x)∧(∀y,m=some y->wI p x<=wI p y)∧∀i,i<ss.length->i<bs.length->wI p x<=wI p own+wI p (nth [] ss i)+wI p (nth [] bs i)
 | [],bs,m,x,_,_,h=>by
  have h:m=some x:=by cases bs<;>exact h
  exact⟨.inl h,fun y hy=>by rw[h]at hy;cases hy;exact Xl _,fun i hi=>by simp at hi⟩
 | _::_,[],m,x,_,_,h=>by
  have h:m=some x:=h;exact⟨.inl h,fun y hy=>by rw[h]at hy;cases hy;exact Xl _,fun i _ hi=>by simp at hi⟩
 | s::ss,t::bs,m,x,hs,hb,h=>by
  have e:=Ow ho (hs s af) (hb t af);simp only[CR]at h;obtain⟨h1,h2,h3⟩:=ET ho ss bs _ x (fun s hx=>hs s (by simp[hx])) (fun s hx=>hb s (by simp[hx])) h;generalize sN (List.replicate p.length 0) [own,s,t]=z at *;have up:∀i,wI p own+wI p (nth [] (s::ss) (i+1))+wI p (nth [] (t::bs) (i+1))=wI p own+wI p (nth [] ss i)+wI p (nth [] bs i):=fun i=>rfl
  have u0:wI p own+wI p (nth [] (s::ss) 0)+wI p (nth [] (t::bs) 0)=wI p z:=e.symm
  have hz:wI p x<=wI p z∧(∀y,m=some y->wI p x<=wI p y)∧(some x=m∨x=z∨∃i,i<ss.length∧i<bs.length∧wI p own+wI p (nth [] ss i)+wI p (nth [] bs i)=wI p x):=by
   cases m with
   | none=>
    refine⟨h2 z rfl,(fun y hy=>by cases hy),?_⟩;rcases h1 with h1|h1
    .cases h1;exact .inr (.inl rfl)
    .exact .inr (.inr h1)
   | some y=>
    have h4:=h2 _ rfl;dsimp only at h1 h4;by_cases hc:wI p z<wI p y
    .rw[if_pos hc]at h1 h4;refine⟨h4,(fun y hy=>by cases hy;omega),?_⟩;rcases h1 with h1|h1
     .cases h1;exact .inr (.inl rfl)
     .exact .inr (.inr h1)
    .rw[if_neg hc]at h1 h4;refine⟨aa,(fun y hy=>by cases hy;exact h4),?_⟩;rcases h1 with h1|h1
     .exact .inl h1.symm
     .exact .inr (.inr h1)
  obtain⟨z1,z2,z3⟩:=hz;refine⟨?_,z2,fun i hi hj=>?_⟩
  .rcases z3 with z3|rfl|⟨i,hi,hj,e⟩
   .exact .inl z3.symm
   .exact .inr ⟨0,af,af,u0⟩
   .exact .inr ⟨i+1,by simp[hi],by simp[hj],(up i).trans e⟩
  .cases i with
   |zero=>rw[u0];exact z1
   |succ i=>rw[up];exact h3 i (by simpa using hi) (by simpa using hj)
theorem IA(ho:own.length=p.length)(hs:∀s∈ss,s.length=p.length)(hb:∀s∈bs,s.length=p.length)(hl:ss.length=bs.length)(h0:0<bs.length):
  IsL (wI p ((CR p none own (List.replicate p.length 0) ss bs).getD [])) bs.length fun i=>wI p own+wI p (nth [] ss i)+wI p (nth [] bs i):=by
 obtain ⟨x,hx⟩:∃x,CR p none own (List.replicate p.length 0) ss bs=some x:=by
  cases ss with
  |nil=>simp at hl;omega
  | cons s ss=>cases bs with
   |nil=>simp at h0
   | cons b bs=>
    simp only[CR];exact minO_some ss bs _
 obtain⟨h1,_,h3⟩:=ET ho ss bs none x hs hb hx;rw[hx];refine⟨?_,fun i hi=>h3 i aa hi⟩;rcases h1 with h1|⟨i,_,hi,e⟩
 .cases h1
 .exact⟨i,hi,e⟩
where
 minO_some {n:LiQ}:∀(ss bs:LLQ)(y:LiQ),∃x,CR p (some y) own n ss bs=some x
  |[],[],y=>⟨y,rfl⟩
  |[],_::_,y=>⟨y,rfl⟩
  |_::_,[],y=>⟨y,rfl⟩
  | s::ss,t::bs,y=>by
   simp only[CR];exact minO_some ss bs _
theorem D9{prev:LLQ}{St:List LLQ}:∀(l:LLQ)(j i:Nat),i<l.length->nth [] (jQ p prev St j l) i=(CR p none (nth [] l i) (List.replicate p.length 0) (yk (j+i) St) prev).getD []
 |o::l,j,0,_=>rfl
 | o::l,j,i+1,h=>by
  have:=D9 (prev:=prev) (St:=St) l (j+1) i (by simpa using h);rw[show j+1+i=j+(i+1) by omega]at this;exact this
theorem Mo{bs:LLQ}:∀(o:LLQ)(ss:List LLQ)(i:Nat),i<o.length->i<ss.length->nth [] (uA p o ss bs) i=(CR p none (nth [] o i) (List.replicate p.length 0) (nth [] ss i) bs).getD []
 |o::l,s::ss,0,_,_=>rfl
 |o::l,s::ss,i+1,h,h2=>Mo l ss i (by simpa using h) (by simpa using h2)
theorem MN:∀(k:Nat)(prev:LLQ)(os:List LLQ)(sss:List (List LLQ)),k<os.length->k<sss.length->nth [] (prev::vn p prev os sss) (k+1)=jQ p (nth [] (prev::vn p prev os sss) k) (nth [] sss k) 0 (nth [] os k)
 |0,prev,o::os,ss::sss,_,_=>rfl
 |k+1,prev,o::os,ss::sss,h1,h2=>MN k (jQ p prev ss 0 o) os sss (by simpa using h1) (by simpa using h2)
theorem EH{cs:LLQ}:∀(q a:LLQ)(b:Nat),a++q=cs->b<cs.length ->
  wI p (nth [] cs (tC p cs b a.length q))<=wI p (nth [] cs b)∧∀x∈q,wI p (nth [] cs (tC p cs b a.length q))<=wI p x
 |[],a,b,_,_=>⟨Xl _,fun x hx=>by cases hx⟩
 | y::q,a,b,h,hb=>by
  have hy:nth [] cs a.length=y:=by rw[<-h,bM]
  have ha:a.length<cs.length:=by rw[<-h];simp
  have e:(a++[y]).length=a.length+1:=af;obtain⟨h1,h2⟩:=EH (cs:=cs) q (a++[y]) (if wI p y<wI p (nth [] cs b)then a.length else b) (by simpa using h) (by split<;>omega);rw[e]at h1 h2;simp only[tC]
  have h3:wI p (nth [] cs (if wI p y<wI p (nth [] cs b)then a.length else b))<=wI p y∧wI p (nth [] cs (if wI p y<wI p (nth [] cs b)then a.length else b))<=wI p (nth [] cs b):=by
   split
   .rw[hy];omega
   .omega
  refine⟨aa,fun x hx=>?_⟩;rcases Zo.1 hx with rfl|hx
  .omega
  .exact h2 x hx
theorem Jl(h:0<cs.length):IsL (wI p (nth [] cs (rU p cs))) cs.length fun i=>wI p (nth [] cs i):=by refine⟨⟨_,yc h,rfl⟩,fun i hi=>?_⟩;exact(EH cs [] 0 rfl h).2 _ (aQ hi)
theorem SR{M N:Int}(h:IsL M n f)(h2:IsL N n g)(e:∀i,i<n->f i=g i):M=N:=by obtain⟨⟨i,hi,h3⟩,h4⟩:=h;obtain⟨⟨j,hj,h5⟩,h6⟩:=h2;have:=e i hi;have:=e j hj;have:=h4 j hj;have:=h6 i hi;omega
variable{a:Ad}
theorem vf(G:cI a):(dL a).length=a.cd.length:=by have h5:=G.five;have hcl:=G.cl;have hlen:=G.wk.len;have:=mF a;have:=uW a;simp only[dL,List.length_cons];rw[EP _ _ _ _ bK];simp;omega
theorem Df(G:cI a)(hk:k+1<a.cd.length):nth [] (dL a) (k+1)=jQ a.p (nth [] (dL a) k) (ko a k) 0 (mX a (k+1)):=by
 have h1:=mF a;have h2:=uW a;have:=MN (p:=a.p) k (mX a 0) ((kG a).drop 1) (gO a) bK aa
 have e:nth [] ((kG a).drop 1) k=mX a (k+1):=by
  rw[<-w9 hk,aN _ _ _ bK,aN _ _ _ aa];simp[V3]
 rw[e,G9 aa]at this;exact this
theorem wT(G:cI a)(hk:k<a.cd.length):(nth [] (dL a) k).length=(nth [] a.cd k).length∧okR a.p 200000000 (nth [] (dL a) k):=by
 have ho:=w9 (a:=a) hk;refine⟨?_,?_⟩
 .cases k with
  |zero=>simp[dL,nth,mX]
  |succ k=>rw[Df G hk,w8];simp[mX]
 .cases k with
  | zero=>
   obtain⟨_,_,h⟩:=G.pre.ho (nth [] (kG a) 0) (aQ (by rw[mF];exact hk));rw[ho]at h;exact tb h ae
  |succ k=>exact G.pots _ (aQ (d:=[]) (l:=vn a.p (mX a 0) ((kG a).drop 1) (gO a)) (by have:=vf G;simp only[dL,List.length_cons]at this;omega))
theorem vH(hi:i<(nth [] a.cd k).length):nth [] (mX a k) i=uB a k i:=by grind[mX,jH]
theorem El(a:Ad)(k:Nat):(mX a k).length=(nth [] a.cd k).length:=by simp[mX]
theorem O9(G:cI a)(hk:k+1<a.cd.length):nth [] (rA a) k=uA a.p (mX a k) (ko a k) (nth [] (rA a) (k+1)):=by
 have h1:=mF a;have h2:=uW a;unfold rA;rw[Bt _ k _ _ aa aa,Bt _ (k+1) _ _ aa aa];have e1:(kG a).drop k=mX a k::(kG a).drop (k+1):=by rw[Z0 aa,<-aN [] _ _ aa,w9 aa]
 have e2:(kG a).drop (k+1)=mX a (k+1)::(kG a).drop (k+1+1):=by rw[Z0 aa,<-aN [] _ _ aa,w9 aa]
 have e3:(gO a).drop k=ko a k::(gO a).drop (k+1):=by rw[Z0 aa,<-aN [] _ _ aa,G9 aa]
 rw[e1,e2,e3];rfl
theorem Pb(G:cI a)(hk:k+1=a.cd.length):nth [] (rA a) k=mX a k:=by
 have h1:=mF a;have h2:=uW a;unfold rA;rw[Bt _ k _ _ aa aa];have e1:(kG a).drop k=[mX a k]:=by rw[Z0 aa,<-aN [] _ _ aa,w9 aa,Xe aa]
 rw[e1];rfl
theorem HV(G:cI a):∀k,k<a.cd.length->IsL (wI a.p (k8 a)) (nth [] a.cd k).length fun i=>wI a.p (nth [] (nth [] (dL a) k) i)+wI a.p (nth [] (nth [] (rA a) k) i)-wI a.p (uB a k i)
 | 0,hk=>by
  obtain⟨r1,_⟩:=PL G hk;have n0:=(G.cn _ (aQ (d:=[]) hk)).1;have:=Jl (p:=a.p) (cs:=nth [] (rA a) 0) aa
  have e:rU a.p (nth [] (rA a) 0)=nth 0 (fV a) 0:=by
   obtain⟨m,hm⟩:∃m,a.cd.length=m+1:=⟨a.cd.length-1,aa⟩;unfold fV;rw[hm]
   show _=rU a.p (mf a 0 0)
   congr 1;refine Wp (by simp[mf,r1]) fun i h1 h2=>?_
   simp[mf,cst,aN _ _ _ h1]
  rw[e,r1]at this;obtain⟨⟨i,hi,h1⟩,h2⟩:=this;have ee:∀i,i<(nth [] a.cd 0).length->nth [] (nth [] (dL a) 0) i=uB a 0 i:=fun i hi=>vH hi
  refine⟨⟨i,hi,?_⟩,fun j hj=>?_⟩
  .dsimp only at h1 ⊢;rw[ee i hi];unfold k8;omega
  .have:=h2 j hj;dsimp only at this ⊢;rw[ee j hj];unfold k8;omega
 | k+1,hk=>by
  have hcl:=G.cl;have hlen:=G.wk.len;obtain⟨p1,p2⟩:=wT G (k:=k) aa;obtain⟨r1,r2⟩:=PL G hk;have n0:=(G.cn _ (aQ (d:=[]) (show k<a.cd.length by omega))).1;have n1:=(G.cn _ (aQ (d:=[]) hk)).1;refine MW (e:=fun i j=>wI a.p (stW a k i j)) (fun j hj=>?_) (fun i hi=>?_) (HV G k aa)
  .rw[Df G hk,D9 _ _ _ (by rw[El];exact hj),vH hj,Zp]
   have:=IA (p:=a.p) (own:=uB a (k+1) j) (G.ownW hk hj).1 (ss:=yk j (ko a k)) (bs:=nth [] (dL a) k) (fun s hs=>by
    simp only[yk,ko,Zc,X6]at hs;obtain⟨_,⟨i,hi,rfl⟩,rfl⟩:=hs;rw[Q6 hj];exact(G.stepW (i:=k) aa hi hj).1) (fun s hs=>(p2 s hs).1) (by simp[yk,ko,p1]) aa
   rw[p1]at this;obtain⟨⟨i,hi,h1⟩,h2⟩:=this
   have e:∀i,i<(nth [] a.cd k).length->nth [] (yk j (ko a k)) i=stW a k i j:=fun i hi=>by
    rw[aN _ _ _ (by simp[yk,ko,hi])];simp[yk,ko,Q6 hj]
   refine⟨⟨i,hi,?_⟩,fun x hx=>?_⟩
   .dsimp only at h1 ⊢;rw[e i hi]at h1;omega
   .have:=h2 x hx;dsimp only at this ⊢;rw[e x hx]at this;omega
  .rw[O9 G hk,Mo _ _ _ (by rw[El];exact hi) (by simpa[ko]using hi),vH hi,Q7 hi]
   have:=IA (p:=a.p) (own:=uB a k i) (G.ownW aa hi).1 (ss:=lV a k i) (bs:=nth [] (rA a) (k+1)) (fun s hs=>by
    simp only[lV,Zc,X6]at hs;obtain⟨j,hj,rfl⟩:=hs;exact(G.stepW (i:=k) aa hi hj).1) (fun s hs=>(r2 s hs).1) (by simp[lV,r1]) aa
   rw[r1]at this;obtain⟨⟨j,hj,h1⟩,h2⟩:=this;refine⟨⟨j,hj,?_⟩,fun x hx=>?_⟩
   .dsimp only at h1 ⊢;rw[Q6 hj]at h1;exact h1
   .have:=h2 x hx;dsimp only at this ⊢;rw[Q6 hx]at this;exact this
theorem Ij(G:cI a):(k8 a).length=a.p.length∧bdN 200000000 (k8 a):=by
 have hlen:=G.wk.len;have hcl:=G.cl;obtain⟨r1,r2⟩:=PL G (k:=0) aa;have n0:=(G.cn _ (aQ (d:=[]) (show 0<a.cd.length by omega))).1;refine r2 _ (aQ ?_)
 have:nth 0 (fV a) 0=rU a.p (mf a 0 0):=by
  obtain⟨m,hm⟩:∃m,a.cd.length=m+1:=⟨a.cd.length-1,aa⟩;unfold fV;rw[hm];rfl
 rw[this,r1];have:=yc (p:=a.p) (cs:=mf a 0 0) (by simp[mf,n0]);simpa[mf]using this
theorem QM{p u v:LiQ}(hC:C<=500000000000)(hi:in6 p)(hu:u.length=p.length∧bdN C u)(hv:v.length=p.length∧bdN C v)(h:wI p u=wI p v):u=v:=by
 have hl:(dI (-1) u v).length=p.length:=by rw[hQ _ aa];exact hu.1
 have hz:=WK (C:=C+C) aa hi hl (fun z hz=>?_) (by rw[FB _ aa];unfold wI at h;rw[h];omega)
 .exact vadd_eq aa hz
 .exact vadd_bd hu.2 hv.2 z hz
where
 vadd_eq:∀{u v:LiQ},u.length=v.length->(∀z∈dI (-1) u v,z=0)->u=v
  |[],[],_,_=>rfl
  | x::u,y::v,h,hz=>by
   have h1:=hz (x + -1*y) (by simp[dI]);rw[vadd_eq (u:=u) (v:=v) (by simpa using h) fun z h2=>hz z (by simp[dI,h2])];rw[show x=y by omega]
 vadd_bd {C:Nat}:∀{u v:LiQ},bdN C u->bdN C v->∀z∈dI (-1) u v,z.natAbs<=C+C
  |[],_,_,_,z,hz=>by simp[dI]at hz
  |_::_,[],_,_,z,hz=>by simp[dI]at hz
  | x::u,y::v,h1,h2,z,hz=>by
   simp only[dI,Zo]at hz;rcases hz with rfl|hz
   .have:=h1 x af;have:=h2 y af;omega
   .exact vadd_bd (fun w hw=>h1 w (by simp[hw])) (fun w hw=>h2 w (by simp[hw])) z hz
theorem Jz(G:cI a)(hk:k+1=a.cd.length):nth [] (nth [] (dL a) k) (rU a.p (nth [] (dL a) k))=k8 a:=by have hk':k<a.cd.length:=aa;obtain⟨p1,p2⟩:=wT G hk';have n0:=(G.cn _ (aQ (d:=[]) hk')).1;have h1:=Jl (p:=a.p) (cs:=nth [] (dL a) k) aa;rw[p1]at h1;refine QM (C:=200000000) ae (eh G.hp).1 (p2 _ (aQ (yc aa))) (Ij G) (SR h1 (HV G k hk') fun i hi=>?_);rw[Pb G hk,vH hi];omega
theorem Hm{r:LiQ}(hN:r.length<1000000)(K:KL)(hK:K (.exit 0) [] []):∀(q l:LiQ),l++q=r ->
  lp (jX (CX Y) (lst di r) (lst di r)) [] [] [I l.length] [] K
 | [],l,hl=>by
  have e:l=r:=by simpa using hl
  subst e;refine aj ?_;simp[jX];exact hK
 | x::q,l,hl=>by
  have hll:r.length=l.length+(q.length+1):=by rw[<-hl];simp
  have ih:=Hm hN K hK q (l++[x]) (by grind);have i1:∀H:Hp,ixV H 1 (lst di r) (I l.length)=some (.dptr (r.map di) l.length):=fun H=>aJ di _ H rfl aa
  have i2:∀H:Hp,ld1 H (.dptr (r.map di) l.length)=some (I x):=fun H=>by rw[aC di 0 r H aa,<-hl,bM];rfl
  have g:(l.length:Int)<r.length:=aa;have e2:((l++[x]).length:Int)=(l.length:Int)+1:=af;rw[e2]at ih;have hre:au [] 0 [] []=([]:Hp):=rfl;have lr:bj (lst di r)=some (I r.length):=rfl;refine aj ?_;simp(disch:=try exact ag)[jX,lr,g,i1,i2];exact ih
theorem Rk(hN:r.length<1000000):CP Y F.ix [lst di r,lst di r] (B true):=by refine yp ?_;have lr:bj (lst di r)=some (I r.length):=rfl;have:=Hm hN (exK [(Exit.exit 0,fun l4 h=>out (B true) (B true) h),(Exit.ret,fun l4 h=>out (B true) (ge l4 0) h)]) (nN rfl) r [] rfl;simp[ix,lr];exact this
theorem YG(x:Q):biA [.str [],.str []] .neq (.agg (qT x)) (.agg (qT x))=some (B false):=by simp[biA,qT,C3,eqC]
theorem Hl{r:List Q}(hN:r.length<1000000)(K:KL)(hK:K (.exit 0) [] []):∀(q l:List Q),l++q=r ->
  lp (jW (CX Y) (szV r) (szV r)) [] [] [I l.length] [] K
 | [],l,hl=>by
  have e:l=r:=by simpa using hl
  subst e;have lr:bj (szV l)=some (I l.length):=by simp[szV]
  refine aj ?_;simp[jW,lr];exact hK
 | x::q,l,hl=>by
  have hll:r.length=l.length+(q.length+1):=by rw[<-hl];simp
  have ih:=Hl hN K hK q (l++[x]) (by grind);obtain⟨w,w1,w2⟩:=SY r [] (i:=l.length) aa;have hn:nth (0,1) r l.length=x:=by rw[<-hl,bM]
  rw[hn]at w2;have g:(l.length:Int)<r.length:=aa;have e2:((l++[x]).length:Int)=(l.length:Int)+1:=af;rw[e2]at ih;have lr:bj (szV r)=some (I r.length):=by simp[szV]
  have bs:=YG x;refine aj ?_;simp(disch:=try exact ag)[jW,lr,g,w1,w2,bs];exact ih
theorem Hk{r:List Q}(hN:r.length<1000000):CP Y F.fL [szV r,szV r] (B true):=by
 refine yn ?_;have lr:bj (szV r)=some (I r.length):=by simp[szV]
 have:=Hl hN (exK [(Exit.exit 0,fun l4 h=>out (B true) (B true) h),(Exit.ret,fun l4 h=>out (B true) (ge l4 0) h)]) (nN rfl) r [] rfl;simp[fL,lr];exact this
def exA:Ad where
 p:=[2,3,5]
 ch:=[[[0,0,0],[-1,1,0]],[[0,0,0],[-1,1,0]],[[0,0,0],[-1,1,0]]]
 lk:=[[(1,0)],[(1,0)]]
 cd:=[[[0,0,0]],[[0,0,0],[-4,4,-1]],[[-4,4,-1]]]
 w:=(0,1)
theorem abc:cI exA where
 hp:=⟨rfl,ae⟩
 wk:=⟨ae,ae,by unfold bdR;trivial,ae,ae,by trivial⟩
 lkn:=ae
 cne:=ae
 five:=ae
 cl:=ae
 cn:=ae
 cr:=by unfold bdR;trivial
 w0:=⟨⟨ae,ae⟩,ae,ae,ae⟩
theorem abb:fV exA=[0,0,0]:=bb
theorem Ov:k8 exA=[-4,4,-1]:=bb
theorem Oy:CP Y F.fk [] (.agg (adC exA)):=by refine ve ?_;have w0:=qc (z:=0) aa aa;simp[fk,cO,jv,iH,toD];refine cd w0 ?_;simp[qT];exact⟨_,rfl⟩
theorem Oj:CP Y F.fi [] (B true):=by
 refine wW ?_;have bo:=QW abc;rw[abb,Ov]at bo;have bo':CP Y F.gH [.agg (adC exA)] (.tup [lst di [0,0,0],szV (szI 1 [-4,4,-1]),I 0]):=bo;have ro:=SD abc (c:=[0,0,0]) (by rfl);have mo:=ZD abc (c:=[0,0,0]) (by rfl);have em:LJ exA 0 (nth 0 [0,0,0] 0:Int).toNat ([0,0,0]:LiQ).tail=[(1,0,[-4,4,-1])]:=bb
 obtain⟨R,hR⟩:=nmQ (tL exA 0 [0,0,0]);have hR3:R.length=3:=by rw[hR];decide+kernel
 have hR2:nth [] R 2=[-6,6,-1]:=by rw[hR];decide+kernel
 rw[em]at mo;rw[<-hR]at ro;have es:szI 1 [-4,4,-1]=[(-4,1),(4,1),(-1,1)]:=ae;rw[es]at bo';have s1:=Hk (r:=[(-4,1),(4,1),(-1,1)]) ae
 have li3:∀H,cO 3 [D.str [],D.str []] [(0,.agg (qT (-4,1))),(1,.agg (qT (4,1))),(2,.agg (qT (-1,1)))] H=some (aK (tx (-4,1))++aK (tx (4,1))++aK (tx (-1,1)),H):=fun H=>by
  rfl
 have sn1:∀H,aS H [szV [(-4,1),(4,1),(-1,1)],.d (.sl 3 (aK (tx (-4,1))++aK (tx (4,1))++aK (tx (-1,1))))]=some ([szV [(-4,1),(4,1),(-1,1)],szV [(-4,1),(4,1),(-1,1)]],H):=fun _=>rfl
 have x1:ld1 [adB exA] (.dptr [di 0,di 0,di 0] 1)=some (I 0):=rfl;have i1:∀H:Hp,ixV H 1 (mat R) (.d (.int .i64 2))=some (.dptr (R.map row) 2):=fun H=>aJ row R H rfl aa
 have i2:∀H:Hp,ld1 H (.dptr (R.map row) 2)=some (lst di [-6,6,-1]):=fun H=>by rw[aC row [] R H aa,hR2];rfl
 have lr:bj (mat R)=some (I 3):=by rw[show bj (mat R)=some (I R.length)from rfl,hR3];rfl
 have li4:∀H,cO 3 [D.int IntKind.i64 0] [(0,I (-6)),(1,I 6),(2,I (-1))] H=some ([di (-6),di 6,di (-1)],H):=fun H=>by
  rfl
 have m1:∀H:Hp,ixV H 3 (qm mvC [(1,0,[-4,4,-1])]) (.d (.int .i64 0))=some (.dptr (mvC (1,0,[-4,4,-1])) 0):=fun H=>rfl
 have m2:∀H:Hp,ld1 H (.dptr (mvC (1,0,[-4,4,-1])) 0)=some (I 1):=fun H=>rfl
 have s2:=Rk (r:=[-6,6,-1]) ae;have wa:=qc (z:=-4) aa aa;have wb:=qc (z:=4) aa aa;have wc:=qc (z:=-1) aa aa;have l6':=(xn _ _ _ _ _ _).symm.trans (show ldA [adB exA] 6 (.ptr 0 1 0 6)=some (.agg (adC exA))from rfl)
 have stx:∀(k:kkQ)(u:PU k),rh (stD [(1,.vars [.d nPQ,.d nPQ,.d nPQ,.d nPQ,.d (.str []),.d (.str [])])] 6 (.ptr 0 1 0 6) (.agg (adC exA))) k u=k .junk [adB exA]:=fun _ _=>rfl
 have st1:st [(1,.vars [.d nPQ,.d nPQ,.d nPQ,.d nPQ,.d (.str []),.d (.str [])])] 6 (.ptr 0 1 0 6) (.agg (adC exA))=some [adB exA]:=rfl;have l6:ldA [adB exA] 6 (.ptr 0 1 0 6)=some (.agg (adC exA)):=rfl;simp[fi];refine cd Oy ?_ (by rfl);simp[stx,l6,l6'];refine cd bo' ?_;simp[l6,l6']
 refine cd ro ?_;simp[l6,l6'];refine cd mo ?_;simp[x1];refine cd wa ?_;simp;refine cd wb ?_;simp;refine cd wc ?_;simp[li3];refine cdx (sn1 _) s1 ?_;simp(disch:=try exact ag)[lr,i1,i2,li4];refine cd s2 ?_;simp(disch:=try exact ag)[m1,m2]
def CV(j:Nat):IntKind:=if 6<=j∧j<51 then .i8 else if 73<=j∧j<119 then .i8 else .u8
def plD(f:Nat->Int)(j:Nat):D:=.int (CV j) (f j)
def Lq(f:Nat->Int):LwQ:=(List.range 68).map fun j=>.d (plD f j)
def plB(f:Nat->Int):Nat×Bk:=(1,.vars (Lq f))
structure GW(f:Nat->Int):Prop where
 u:∀j<120,CV j=.u8->0<=f j∧f j<=255
 s:∀j<120,CV j=.i8->-128<=f j∧f j<=127
theorem tG(h:(j<6∨51<=j)∧(j<73∨119<=j)):CV j=.u8:=by unfold CV;rw[if_neg aa,if_neg aa]
theorem xo(h:(6<=j∧j<51)∨(73<=j∧j<119)):CV j=.i8:=by
 unfold CV;by_cases g:6<=j∧j<51
 .rw[if_pos g]
 .rw[if_neg g,if_pos aa]
theorem Ru(g:Nat->α)(h:j<n):((List.range n).map g)[j]?=some (g j):=by simp[h]
theorem Hv(g:Nat->α)(h:j+m<=n):cut ((List.range n).map g) j m=some ((List.range m).map fun i=>g (j+i)):=by
 simp only[cut,List.length_map,Y0];rw[if_pos h];congr 1;apply Wp
 .grind
 simp
theorem Uu(hj:j<68):ld1 (plB f::H) (.ptr 0 1 j 68)=some (.d (plD f j)):=by grind[aw,plB,Lq,ld1]
theorem Ut(hj:j+m<=68):ldA (plB f::H) m (.ptr 0 1 j 68)=some (.agg ((List.range m).map fun i=>.d (plD f (j+i)))):=by grind[aw,plB,Lq,ldA,Hv]
def ntF(f:Nat->Int)(i:Nat):Nat:=1+(f (1+i)).toNat%3
def rwF(f:Nat->Int)(j:Nat):LiQ:=[(f j).tmod 9,(f (j+1)).tmod 9,(f (j+2)).tmod 9]
def chF(f:Nat->Int)(i:Nat):LLQ:=(List.range (ntF f i)).map fun k=>rwF f (6+i*9+k*3)
theorem TH(f:Nat->Int)(j:Nat):(rwF f j).length=3∧bdR 8 (rwF f j):=by
 refine⟨rfl,fun x hx=>?_⟩
 have h:∀z:Int,-8<=z.tmod 9∧z.tmod 9<=8:=fun z=>by
  have h1:=Wn z (b:=9) ae
  have h2 : -9<z.tmod 9:=by
   rcases Int.le_total 0 z with h|h
   .grind
   .have e:z.tmod 9 = -((-z).tmod 9):=by rw[Int.neg_tmod,Int.neg_neg]
    grind
  omega
 simp only[rwF,Zo,Ys,or_false]at hx;rcases hx with rfl|rfl|rfl<;>exact h _
def tJ:Acc:=⟨5,0,1,.none⟩
def m1H(f:Nat->Int)(s1 s2 s3 s4 s5 s6 s7 s8 s9:Nat×Bk):Hp:=[plB f,s1,s2,s3,s4,s5,s6,s7,s8,s9]
def chC(f:Nat->Int)(i n:Nat):LdQ:=(List.range n).map fun k=>row (rwF f (6+i*9+k*3))
theorem XH(f:Nat->Int)(i n:Nat):chC f i (n+1)=chC f i n++[row (rwF f (6+i*9+n*3))]:=by simp[chC,Y3]
theorem U7{f:Nat->Int}(P:GW f){i:Nat}(hi:i<5){s1 s2 s3 s6 s7 s8 s9:Nat×Bk}(b1:offB [4] s1.2=true)(b2:offB [4] s2.2=true)(b3:offB [4] s3.2=true)(b6:offB [4] s6.2=true)(b7:offB [4] s7.2=true)(b8:offB [4] s8.2=true)(b9:offB [4] s9.2=true)
  (K:KL) (hK:K (.exit 2) [tJ.v (ntF f i) (chC f i (ntF f i))] (m1H f s1 s2 s3 nnQ (tJ.b (ntF f i) (chC f i (ntF f i))) s6 s7 s8 s9)) :
  ∀(m k:Nat),k+m=ntF f i ->
  lp (jU (CX Y) (.ptr 0 1 0 68) (I i) (I (ntF f i))) [4] (m1H f s1 s2 s3 nnQ nnQ s6 s7 s8 s9) [tJ.v k (chC f i k),I k] (m1H f s1 s2 s3 nnQ (tJ.b k (chC f i k)) s6 s7 s8 s9) K
 | 0,k,hk=>by
  have ek:ntF f i=k:=aa;rw[ek]at hK ⊢;refine aj ?_;simp[jU];exact hK
 | m+1,k,hk=>by
  have h3:ntF f i<=3:=by have:=Y7 (f (1+i)).toNat (show 0<3 by decide);unfold ntF;omega
  have ih:=U7 P hi (s1:=s1) (s2:=s2) (s3:=s3) (s6:=s6) (s7:=s7) (s8:=s8) (s9:=s9) b1 b2 b3 b6 b7 b8 b9 K hK m (k+1) aa;rw[XH]at ih;obtain⟨j,hj⟩:=nmQ (6+i*9+k*3);have hjl:j+3<=51:=aa;have k0:plD f j=.int .i8 (f j):=by unfold plD;rw[xo aa]
  have k1:plD f (j+1)=.int .i8 (f (j+1)):=by unfold plD;rw[xo aa]
  have k2:plD f (j+2)=.int .i8 (f (j+2)):=by unfold plD;rw[xo aa]
  have q0:=P.s j aa (xo aa);have q1:=P.s (j+1) aa (xo aa);have q2:=P.s (j+2) aa (xo aa)
  have r1:ldA (m1H f s1 s2 s3 nnQ (tJ.b k (chC f i k)) s6 s7 s8 s9) 3 (.ptr 0 1 j 68)=some (.agg [.d (.int .i8 (f j)),.d (.int .i8 (f (j+1))),.d (.int .i8 (f (j+2)))]):=by
   have:=Ut (f:=f) (H:=[s1,s2,s3,nnQ,tJ.b k (chC f i k),s6,s7,s8,s9]) (j:=j) (m:=3) aa;rw[<-k0,<-k1,<-k2];exact this
  have r1':=(xn _ _ _ _ _ _).symm.trans r1;have c1:(chC f i k).length=k*1:=by simp[chC]
  have g:(k:Int)<ntF f i:=aa;have g5:(i:Int)<5:=aa;have gk3:(k:Int)<3:=aa;have rb:=TH f j;obtain⟨x,hx⟩:=nmQ (f j);obtain⟨y,hy⟩:=nmQ (f (j+1));obtain⟨z,hz⟩:=nmQ (f (j+2));have er:rwF f j=[x.tmod 9,y.tmod 9,z.tmod 9]:=by rw[hx,hy,hz];rfl
  rw[<-hj,er]at ih;rw[<-hx,<-hy,<-hz]at r1 r1';rw[<-hx]at q0;rw[<-hy]at q1;rw[<-hz]at q2;have al:∀(q:kkQ)(u:PU q),rh (alD 4 1 [.int .i8 0,.int .i8 0,.int .i8 0] (m1H f s1 s2 s3 nnQ (tJ.b k (chC f i k)) s6 s7 s8 s9)) q u=q (.ptr 4 1 0 3) (m1H f s1 s2 s3 (1,.data 1 [.int .i8 0,.int .i8 0,.int .i8 0] true false) (tJ.b k (chC f i k)) s6 s7 s8 s9):=fun _ _=>rfl
  have sd:∀(q:kkQ)(u:PU q),rh (stD (m1H f s1 s2 s3 (1,.data 1 [.int .i8 0,.int .i8 0,.int .i8 0] true false) (tJ.b k (chC f i k)) s6 s7 s8 s9) 3 (.ptr 4 1 0 3) (.agg [.d (.int .i8 x),.d (.int .i8 y),.d (.int .i8 z)])) q u=q .junk (m1H f s1 s2 s3 (1,.data 1 [.int .i8 x,.int .i8 y,.int .i8 z] true false) (tJ.b k (chC f i k)) s6 s7 s8 s9):=fun _ _=>rfl
  have t0:ld1 (m1H f s1 s2 s3 (1,.data 1 [.int .i8 x,.int .i8 y,.int .i8 z] true false) (tJ.b k (chC f i k)) s6 s7 s8 s9) (.ptr 4 1 0 3)=some (.d (.int .i8 x)):=rfl;have t1:ld1 (m1H f s1 s2 s3 (1,.data 1 [.int .i8 x,.int .i8 y,.int .i8 z] true false) (tJ.b k (chC f i k)) s6 s7 s8 s9) (.ptr 4 1 1 3)=some (.d (.int .i8 y)):=rfl
  have t2:ld1 (m1H f s1 s2 s3 (1,.data 1 [.int .i8 x,.int .i8 y,.int .i8 z] true false) (tJ.b k (chC f i k)) s6 s7 s8 s9) (.ptr 4 1 2 3)=some (.d (.int .i8 z)):=rfl;have t0':=(mu _ _ _ _ _).symm.trans t0;have t1':=(mu _ _ _ _ _).symm.trans t1;have t2':=(mu _ _ _ _ _).symm.trans t2
  have li3:∀H,cO 3 [D.int IntKind.i64 0] [(0,I (x.tmod 9)),(1,I (y.tmod 9)),(2,I (z.tmod 9))] H=some ([di (x.tmod 9),di (y.tmod 9),di (z.tmod 9)],H):=fun H=>by
   rfl
  have li1:∀H,cO 1 [nPQ] [(0,.d (.sl 3 [di (x.tmod 9),di (y.tmod 9),di (z.tmod 9)]))] H=some ([row [x.tmod 9,y.tmod 9,z.tmod 9]],H):=fun H=>by
   rfl
  refine aj ?_;simp(disch:=try exact ag)[jU,g,g5,gk3,<-hj,r1,r1',al,sd,t0,t0',t1,t1',t2,t2',li3,li1];refine hO tJ (L:=k) (k:=1) (cells:=chC f i k) (cs:=[row [x.tmod 9,y.tmod 9,z.tmod 9]]) aa rfl c1 rfl rfl (fun t e=>by cases e) aa ae ?_;have g2:biI .add (I k) (.d (.int .i64 1))=some (I ((k+1:Nat):Int)):=wE aa
  show bnd _ _
  rw[g2]
  have b0:offB [4] (plB f).2=true:=by
   have:∀(l:LnQ),dT [4] (l.map fun j=>V.d (plD f j))=true:=fun l=>by
    induction l with
    |nil=>rfl
    |cons x l ih=>trivial
   exact this _
  have o5:∀L c,offB [4] (tJ.b L c).2=true:=fun L c=>fO _ _ _ _ rfl
  have o5':∀L c,kH [4] (tJ.v L c)=true:=fun L c=>oe _ _ _ _ rfl
  refine⟨?_,?_⟩
  .simp only[clean,dT,o5',m1H,List.set_cons_succ,List.set_cons_zero,jm,b0,b1,b2,b3,b6,b7,b8,b9,o5,mZ,Y4,Zg,X1,tJ];rfl
  trivial
def nlF(f:Nat->Int)(n:Nat):Nat:=1+(f 67).toNat/2^n%2
def lkF(f:Nat->Int)(n k:Nat):Lk:=((f (51+n*4+k*2)).tmod (ntF f n),(f (51+n*4+k*2+1)).tmod (ntF f (n+1)))
def lkL(f:Nat->Int)(n:Nat):List Lk:=(List.range (nlF f n)).map (lkF f n)
def ccC(f:Nat->Int)(n:Nat):LdQ:=(List.range n).map fun i=>aA (chF f i)
theorem XQ(f:Nat->Int)(n:Nat):ccC f (n+1)=ccC f n++[aA (chF f n)]:=by simp[ccC,Y3]
def llC(f:Nat->Int)(n:Nat):LdQ:=(List.range n).map fun i=>lkD (lkL f i)
theorem Vh(f:Nat->Int)(n:Nat):llC f (n+1)=llC f n++[lkD (lkL f n)]:=by simp[llC,Y3]
def tI:Acc:=⟨6,0,1,.none⟩
def ww:Acc:=⟨8,0,2,.none⟩
def Dc:Acc:=⟨9,0,1,.none⟩
def wB(f:Nat->Int)(i j:Nat):Nat×Bk:=(1,.vars [.ref 2 1 0 3 3 3,tI.v i (ccC f i),Dc.v j (llC f j)])
def prB:Nat×Bk:=(1,.data 1 [di 2,di 3,di 5] true false)
def rO(f:Nat->Int)(n k:Nat):LdQ:=(List.range k).flatMap fun k=>lkC (lkF f n k)
theorem RU(f:Nat->Int)(n k:Nat):rO f n (k+1)=rO f n k++lkC (lkF f n k):=by simp[rO,Y3]
theorem HB(f:Nat->Int)(i:Nat):1<=ntF f i∧ntF f i<=3:=by grind[ntF]
theorem P0(f:Nat->Int)(i:Nat):1<=nlF f i∧nlF f i<=2:=by grind[nlF]
theorem I4(f:Nat->Int)(clr:LnQ):offB clr (plB f).2=true:=by
 have:∀(l:LnQ),dT clr (l.map fun j=>V.d (plD f j))=true:=fun l=>by
  induction l with
  |nil=>rfl
  |cons x l ih=>trivial
 rfl
theorem Iy(f:Nat->Int)(h2:dw clr 2=true)(h6:dw clr 6=true)(h9:dw clr 9=true):offB clr (wB f i j).2=true:=by grind[kH,wB,offB,dT,oe,tI,Dc]
theorem U6{f:Nat->Int}(P:GW f){n:Nat}(hn:n<4){s1 s4 s5 s9:Nat×Bk}(b1:offB [7] s1.2=true)(b4:offB [7] s4.2=true)(b5:offB [7] s5.2=true)(b9:offB [7] s9.2=true){cv:V}(hcv:bj cv=some (I (ntF f (n+1))))
  (K:KL) (hK:K (.exit 4) [ww.v (nlF f n) (rO f n (nlF f n))] (m1H f s1 prB (wB f (n+2) n) s4 s5 (tI.b (n+2) (ccC f (n+2))) nnQ (ww.b (nlF f n) (rO f n (nlF f n))) s9)) :
  ∀(m k:Nat),k+m=nlF f n ->
  lp (jT (CX Y) (.ptr 0 1 0 68) (.ptr 3 1 0 3) (I (n+1:Nat)) cv (I (nlF f n))) [7] (m1H f s1 prB (wB f (n+2) n) s4 s5 (tI.b (n+2) (ccC f (n+2))) nnQ nnQ s9) [ww.v k (rO f n k),I k]
   (m1H f s1 prB (wB f (n+2) n) s4 s5 (tI.b (n+2) (ccC f (n+2))) nnQ (ww.b k (rO f n k)) s9) K
 | 0,k,hk=>by
  have ek:nlF f n=k:=aa;rw[ek]at hK ⊢;refine aj ?_;simp[jT];exact hK
 | m+1,k,hk=>by
  obtain⟨l0,l2⟩:=P0 f n;obtain⟨n0,n3⟩:=HB f n;obtain⟨m0,m3⟩:=HB f (n+1);have ih:=U6 P hn (s1:=s1) (s4:=s4) (s5:=s5) (s9:=s9) b1 b4 b5 b9 hcv K hK m (k+1) aa;rw[RU]at ih;obtain⟨j,hj⟩:=nmQ (51+n*4+k*2);have hjl:j+2<=67:=aa;have k0:plD f j=.int .u8 (f j):=by unfold plD;rw[tG aa]
  have k1:plD f (j+1)=.int .u8 (f (j+1)):=by unfold plD;rw[tG aa]
  have q0:=P.u j aa (tG aa);have q1:=P.u (j+1) aa (tG aa)
  have r1:ldA (m1H f s1 prB (wB f (n+2) n) s4 s5 (tI.b (n+2) (ccC f (n+2))) nnQ (ww.b k (rO f n k)) s9) 2 (.ptr 0 1 j 68)=some (.agg [.d (.int .u8 (f j)),.d (.int .u8 (f (j+1)))]):=by
   have:=Ut (f:=f) (H:=[s1,prB,wB f (n+2) n,s4,s5,tI.b (n+2) (ccC f (n+2)),nnQ,ww.b k (rO f n k),s9]) (j:=j) (m:=2) aa;rw[<-k0,<-k1];exact this
  have r1':=(xn _ _ _ _ _ _).symm.trans r1;have c1:(rO f n k).length=k*2:=by unfold rO;rw[d6 (fun k=>lkC (lkF f n k)) (n:=2) (fun _=>rfl)];simp
  have g:(k:Int)<nlF f n:=aa;have gn4:(n:Int)<4:=aa;have gk2:(k:Int)<2:=aa;have gn:((n:Int)+1)-1=(n:Int):=aa;obtain⟨x,hx⟩:=nmQ (f j);obtain⟨y,hy⟩:=nmQ (f (j+1));have el:lkF f n k=(x.tmod (ntF f n),y.tmod (ntF f (n+1))):=by unfold lkF;rw[<-hj,hx,hy]
  rw[el]at ih;rw[<-hx,<-hy]at r1 r1';rw[<-hx]at q0;rw[<-hy]at q1;obtain⟨s8,hs8⟩:∃s,s=ww.b k (rO f n k):=⟨_,rfl⟩;obtain⟨v8,hv8⟩:∃s,s=ww.v k (rO f n k):=⟨_,rfl⟩;rw[<-hs8]at r1 r1'
  have fin:∀(s7:Nat×Bk)(q:kkQ)(u:PU q),q (ww.v (k+1) (rO f n k++lkC (x.tmod (ntF f n),y.tmod (ntF f (n+1))))) (m1H f s1 prB (wB f (n+2) n) s4 s5 (tI.b (n+2) (ccC f (n+2))) s7 (ww.b (k+1) (rO f n k++lkC (x.tmod (ntF f n),y.tmod (ntF f (n+1))))) s9) ->
    rh (apV false 8 2 16 v8 (.d (.sl 1 [di (x.tmod (ntF f n)),di (y.tmod (ntF f (n+1)))])) (m1H f s1 prB (wB f (n+2) n) s4 s5 (tI.b (n+2) (ccC f (n+2))) s7 s8 s9)) q u:=fun s7 q u hq=>by
   rw[hs8,hv8];exact hO ww (L:=k) (k:=1) (cells:=rO f n k) (cs:=lkC (x.tmod (ntF f n),y.tmod (ntF f (n+1)))) aa rfl c1 rfl rfl (fun t e=>by cases e) aa ae hq
  obtain⟨s6,hs6⟩:∃s,s=tI.b (n+2) (ccC f (n+2)):=⟨_,rfl⟩;obtain⟨v6,hv6⟩:∃s,s=tI.v (n+2) (ccC f (n+2)):=⟨_,rfl⟩;obtain⟨s3,hs3⟩:∃s,s=wB f (n+2) n:=⟨_,rfl⟩;have b3:offB [7] s3.2=true:=by rw[hs3];exact Iy f rfl rfl rfl
  have b6:offB [7] s6.2=true:=by rw[hs6];exact fO _ _ _ _ rfl
  have r3:∀s7,ld1 (m1H f s1 prB s3 s4 s5 s6 s7 s8 s9) (.ptr 3 1 1 3)=some v6:=fun s7=>by rw[hs3,hv6];rfl
  have r3':=fun s7=>(mu _ _ _ _ _).symm.trans (r3 s7)
  have hv:v6=.ref 6 1 0 (n+2) (n+2) (n+2):=by
   have:(ccC f (n+2)).length=n+2:=by simp[ccC]
   rw[hv6];simp only[Acc.v,tI,this]
  have r6:∀s7,∃w,ixV (m1H f s1 prB s3 s4 s5 s6 s7 s8 s9) 1 v6 (I n)=some w∧ld1 (m1H f s1 prB s3 s4 s5 s6 s7 s8 s9) w=some (.d (aA (chF f n))):=fun s7=>by
   have hs:(m1H f s1 prB s3 s4 s5 s6 s7 s8 s9)[6]?=some (1,.data 1 ((List.range (n+2)).map fun i=>aA (chF f i)) false false):=by rw[hs6];rfl
   have x1:=ixB (f:=fun i=>aA (chF f i)) hs (n:=n+2) af (i:=n) aa .i64;have x2:=ldB (f:=fun i=>aA (chF f i)) 0 hs (n:=n+2) af (i:=n) aa;have e:nth 0 (List.range (n+2)) n=n:=by rw[aN _ _ _ af];simp
   grind
  have lmx:bj (.d (aA (chF f n)))=some (I (ntF f n)):=by rw[RX];simp[chF]
  rw[<-hs6,<-hs3]at fin r1 r1' ih;rw[<-hs8,<-hv8,<-hs6,<-hs3];have al:∀(q:kkQ)(u:PU q),rh (alD 7 1 [.int .u8 0,.int .u8 0] (m1H f s1 prB s3 s4 s5 s6 nnQ s8 s9)) q u=q (.ptr 7 1 0 2) (m1H f s1 prB s3 s4 s5 s6 (1,.data 1 [.int .u8 0,.int .u8 0] true false) s8 s9):=fun _ _=>rfl
  have sd:∀(q:kkQ)(u:PU q),rh (stD (m1H f s1 prB s3 s4 s5 s6 (1,.data 1 [.int .u8 0,.int .u8 0] true false) s8 s9) 2 (.ptr 7 1 0 2) (.agg [.d (.int .u8 x),.d (.int .u8 y)])) q u=q .junk (m1H f s1 prB s3 s4 s5 s6 (1,.data 1 [.int .u8 x,.int .u8 y] true false) s8 s9):=fun _ _=>rfl
  obtain⟨s7,hs7⟩:∃s:Nat×Bk,s=(1,.data 1 [.int .u8 x,.int .u8 y] true false):=⟨_,rfl⟩;have t0:ld1 (m1H f s1 prB s3 s4 s5 s6 s7 s8 s9) (.ptr 7 1 0 2)=some (.d (.int .u8 x)):=by rw[hs7];rfl
  have t1:ld1 (m1H f s1 prB s3 s4 s5 s6 s7 s8 s9) (.ptr 7 1 1 2)=some (.d (.int .u8 y)):=by rw[hs7];rfl
  have t0':=(mu _ _ _ _ _).symm.trans t0;have t1':=(mu _ _ _ _ _).symm.trans t1;rw[<-hs7]at sd;obtain⟨w,w1,w2⟩:=r6 s7;obtain⟨p,hp⟩:∃p:Int,p=ntF f n:=⟨_,rfl⟩;obtain⟨o,ho⟩:∃p:Int,p=ntF f (n+1):=⟨_,rfl⟩;have p0:p≠0:=aa;have o0:o≠0:=aa;rw[<-hp]at lmx fin ih;rw[<-ho]at hcv fin ih
  have bl:bld [(0,1),(1,1)] [.int .i64 0,.int .i64 0] [(0,I (x.tmod p)),(1,I (y.tmod o))]=some (.agg [I (x.tmod p),I (y.tmod o)]):=rfl
  have li1:∀H,cO 1 [D.int IntKind.i64 0,D.int IntKind.i64 0] [(0,.agg [I (x.tmod p),I (y.tmod o)])] H=some ([di (x.tmod p),di (y.tmod o)],H):=fun H=>by
   rfl
  refine aj ?_;simp(disch:=try exact ag)[jT,g,gn,gn4,gk2,<-hj,r1,r1',al,sd,t0,t0',t1,t1',r3,r3',w1,w2,lmx,hcv,p0,o0,li1];refine fin _ _ .mk ?_;have g2:biI .add (I k) (.d (.int .i64 1))=some (I ((k+1:Nat):Int)):=wE aa
  show bnd _ _
  rw[g2];have o8:∀L c,offB [7] (ww.b L c).2=true:=fun L c=>fO _ _ _ _ rfl
  have o8':∀L c,kH [7] (ww.v L c)=true:=fun L c=>oe _ _ _ _ rfl
  have bp:offB [7] prB.2=true:=rfl;refine⟨?_,?_⟩
  .simp only[clean,dT,o8',m1H,jm,I4,bp,b1,b3,b4,b5,b6,b9,o8,mZ,Y4,Zg,X1];rfl
  trivial
theorem aiC{a:Nat}(h:a<256):biI .and (.d (.int .u8 a)) (.d (.int .u8 1))=some (.d (.int .u8 ((a%2:Nat):Int))):=by
 have ea:(BitVec.ofInt 8 (a:Int)).toNat=a:=by simp[BitVec.toNat_ofInt];omega
 have eb:(BitVec.ofInt 8 (1:Int)).toNat=1:=ae;have e:(BitVec.ofInt 8 (a:Int)&&&BitVec.ofInt 8 1).toNat=a%2:=by rw[BitVec.toNat_and,ea,eb,Nat.and_one_is_mod]
 show mr (some (Value.int .u8 (IntKind.wrap .u8 ((BitVec.ofInt 8 (a:Int)&&&BitVec.ofInt 8 1).toNat:Int))))=_
 rw[e,wrap_u8' aa aa];rfl
def m0K(f:Nat->Int)(z:Nat×Bk)(i:Nat):Hp:=m1H f z prB (wB f i (i-1)) nnQ nnQ (tI.b i (ccC f i)) nnQ nnQ (Dc.b (i-1) (llC f (i-1)))
theorem abz(f:Nat->Int)(i:Nat):D.sl (ntF f i) (chC f i (ntF f i))=aA (chF f i):=by simp only[aA,chF,List.length_map,Y0,Yy];rfl
theorem Vi(f:Nat->Int)(n:Nat):D.sl (nlF f n) (rO f n (nlF f n))=lkD (lkL f n):=by simp[lkD,lkL,rO,List.flatMap_map]
theorem U8{f:Nat->Int}(P:GW f){z:Nat×Bk}{N:Nat}(hN:N<=5)(b1:∀c,offB c z.2=true)(K:KL)(hK:K (.exit 0) [] (m0K f z N)) :
  ∀(m i:Nat),i+m=N ->
  lp (jV (CX Y) (.ptr 0 1 0 68) (.ptr 3 1 0 3) (I N)) [4,5,7,8] (m0K f z 0) [I i] (m0K f z i) K
 | 0,i,hi=>by
  have ei:N=i:=aa;rw[ei]at hK ⊢;refine aj ?_;simp[jV];exact hK
 | m+1,i,hi=>by
  obtain⟨n0,n3⟩:=HB f i;have ih:=U8 P hN b1 K hK m (i+1) aa;have hi5:i<5:=aa;have g:(i:Int)<N:=aa;have g5:(i:Int)<5:=aa;have k1:plD f (1+i)=.int .u8 (f (1+i)):=by unfold plD;rw[tG aa]
  have q1:=P.u (1+i) aa (tG aa)
  have ra:∀s1 s2 s3 s4 s5 s6 s7 s8 s9,ld1 (m1H f s1 s2 s3 s4 s5 s6 s7 s8 s9) (.ptr 0 1 (1+i) 68)=some (.d (.int .u8 (f (1+i)))):=fun s1 s2 s3 s4 s5 s6 s7 s8 s9=>by
   rw[<-k1];exact Uu aa
  have ra':=fun s1 s2 s3 s4 s5 s6 s7 s8 s9=>(mu _ _ _ _ _).symm.trans (ra s1 s2 s3 s4 s5 s6 s7 s8 s9)
  have tm:(f (1+i)).tmod 3=(f (1+i))%3:=Zx q1.1;have en:1+(f (1+i))%3=((ntF f i:Nat):Int):=by unfold ntF;omega
  have q1':0<=f (1+i)%3∧f (1+i)%3<=2:=aa;have l1:=fun s1 s2 s3 s6 s7 s8 s9 b1 b2 b3 b6 b7 b8 b9 K hK=>U7 P hi5 (s1:=s1) (s2:=s2) (s3:=s3) (s6:=s6) (s7:=s7) (s8:=s8) (s9:=s9) b1 b2 b3 b6 b7 b8 b9 K hK (ntF f i) 0 aa
  obtain⟨s6,hs6⟩:∃s,s=tI.b i (ccC f i):=⟨_,rfl⟩;obtain⟨v6,hv6⟩:∃s,s=tI.v i (ccC f i):=⟨_,rfl⟩;obtain⟨s9,hs9⟩:∃s,s=Dc.b (i-1) (llC f (i-1)):=⟨_,rfl⟩;obtain⟨s3,hs3⟩:∃s,s=wB f i (i-1):=⟨_,rfl⟩;have eH:m0K f z i=m1H f z prB s3 nnQ nnQ s6 nnQ nnQ s9:=by rw[hs3,hs6,hs9];rfl
  have c5:(chC f i (ntF f i)).length=ntF f i*1:=by simp[chC]
  obtain⟨v5,hv5⟩:∃v,v=tJ.v (ntF f i) (chC f i (ntF f i)):=⟨_,rfl⟩;obtain⟨s5,hs5⟩:∃v,v=tJ.b (ntF f i) (chC f i (ntF f i)):=⟨_,rfl⟩;have lv5:bj v5=some (I (ntF f i)):=by rw[hv5];exact E4 ..
  obtain⟨fr5,td⟩:=oA tJ (h:=m1H f z prB s3 nnQ s5 s6 nnQ nnQ s9) (L:=ntF f i) (c:=chC f i (ntF f i)) (by rw[hs5];rfl) c5;rw[if_neg aa,abz,<-hv5]at td;obtain⟨s5',hs5'⟩:∃s:Nat×Bk,s=(tJ.e+1,.data tJ.n (chC f i (ntF f i)) false fr5):=⟨_,rfl⟩
  have td':toD (m1H f z prB s3 nnQ s5 s6 nnQ nnQ s9) v5=some (aA (chF f i),m1H f z prB s3 nnQ s5' s6 nnQ nnQ s9):=by rw[td,hs5'];rfl
  have li5:=yZ td' (by rw[hv5];exact pU ..);have r6:ld1 (m1H f z prB s3 nnQ s5 s6 nnQ nnQ s9) (.ptr 3 1 1 3)=some v6:=by rw[hs3,hv6];rfl
  have r6':=(mu _ _ _ _ _).symm.trans r6;have cc:(ccC f i).length=i*1:=by simp[ccC]
  obtain⟨v6',hv6'⟩:∃v,v=tI.v (i+1) (ccC f (i+1)):=⟨_,rfl⟩;obtain⟨s6',hs6'⟩:∃v,v=tI.b (i+1) (ccC f (i+1)):=⟨_,rfl⟩;obtain⟨s3',hs3'⟩:∃s,s=wB f (i+1) (i-1):=⟨_,rfl⟩
  have ap6:∀(q:kkQ)(u:PU q),q v6' (m1H f z prB s3 nnQ s5' s6' nnQ nnQ s9)->rh (apV false 6 1 24 v6 (.d (.sl 1 [aA (chF f i)])) (m1H f z prB s3 nnQ s5' s6 nnQ nnQ s9)) q u:=fun q u hq=>by
   rw[hv6,hs6];refine hO tI (L:=i) (k:=1) (cells:=ccC f i) (cs:=[aA (chF f i)]) aa rfl cc rfl rfl (fun t e=>by cases e) aa ae ?_;rw[<-XQ,<-hv6'];rw[hs6']at hq;exact hq
  have sd6:∀(q:kkQ)(u:PU q),rh (stD (m1H f z prB s3 nnQ s5' s6' nnQ nnQ s9) 1 (.ptr 3 1 1 3) v6') q u=q .junk (m1H f z prB s3' nnQ s5' s6' nnQ nnQ s9):=fun q u=>by
   rw[hs3,hs3',hv6'];rfl
  have o3:∀clr,dw clr 2=true->dw clr 6=true->dw clr 9=true->offB clr s3.2=true:=fun clr h2 h6 h9=>by rw[hs3];exact Iy f h2 h6 h9
  have o6:∀clr,offB clr s6.2=true:=fun clr=>by rw[hs6];exact fO _ _ _ _ rfl
  have o9:∀clr,offB clr s9.2=true:=fun clr=>by rw[hs9];exact fO _ _ _ _ rfl
  have o6':∀clr,offB clr s6'.2=true:=fun clr=>by rw[hs6'];rfl
  have o5':∀clr,offB clr s5'.2=true:=fun clr=>by rw[hs5'];rfl
  have g2:biI .add (I i) (.d (.int .i64 1))=some (I ((i+1:Nat):Int)):=wE aa;have e0:∀s s5 s6 s7 s8 s9,au [4,5,7,8] 0 (m0K f z 0) (m1H f z prB s nnQ s5 s6 s7 s8 s9)=m1H f z prB s nnQ nnQ s6 nnQ nnQ s9:=fun s s5 s6 s7 s8 s9=>rfl
  have bp:∀clr,offB clr prB.2=true:=fun _=>rfl
  rw[eH];refine aj ?_;simp[jV,g];refine aT ?_;simp(disch:=try exact ag)[g5,ra,ra',tm,en];refine lo (l1 _ _ _ _ _ _ _ (b1 _) (bp _) (o3 _ rfl rfl rfl) (o6 _) rfl rfl (o9 _) _ ?_);rw[<-hv5,<-hs5];simp[r6,r6',li5];refine ap6 _ .mk ?_;by_cases h0:i=0
  .subst h0;simp[sd6];refine⟨?_,?_⟩
   .have o3':∀clr,dw clr 2=true->dw clr 6=true->dw clr 9=true->offB clr s3'.2=true:=fun clr h2 h6 h9=>by rw[hs3'];exact Iy f h2 h6 h9
    simp only[clean,dT,m1H,jm,I4,bp,b1,o3' [4,5,7,8] rfl rfl rfl,o5',o6',o9,mZ,Y4,Zg,X1];rfl
   .rw[e0];rw[hs3',hs6',hs9];exact ih
  .obtain⟨n,rfl⟩:∃n,i=n+1:=⟨i-1,aa⟩;have gz:¬((n+1:Nat):Int)=0:=aa;obtain⟨l0,l2⟩:=P0 f n;have k67:plD f 67=.int .u8 (f 67):=by unfold plD;rw[tG aa]
   have q67:=P.u 67 aa (tG aa);obtain⟨mm,hmm⟩:∃mm:Nat,f 67=mm:=⟨(f 67).toNat,aa⟩
   have rb:ld1 (m1H f z prB s3' nnQ s5' s6' nnQ nnQ s9) (.ptr 0 1 67 68)=some (.d (.int .u8 mm)):=by
    rw[<-hmm,<-k67];exact Uu aa
   have rb':=(mu _ _ _ _ _).symm.trans rb;have gn:((n:Int)+1)-1=(n:Int):=aa;have sh:biI .shr (.d (.int .u8 mm)) (I n)=some (.d (.int .u8 ((mm/2^n:Nat):Int))):=Ew (by show n<=8;omega);have hlt:mm/2^n<256:=Zk (Yu _ _) aa;have an:=aiC hlt;have hcst:((mm/2^n:Nat):Int)=(mm:Int)/2^n:=af
   have an':biI .and (.d (.int .u8 ((mm:Int)/2^n))) (.d (.int .u8 1))=some (.d (.int .u8 ((mm/2^n%2:Nat):Int))):=by rw[<-hcst];exact an
   obtain⟨r2,hr2⟩:∃r2:Int,r2=((mm/2^n%2:Nat):Int):=⟨_,rfl⟩
   have en2:(1:Int)+((mm/2^n%2:Nat):Int)=((nlF f n:Nat):Int):=by
    unfold nlF;rw[hmm,Int.toNat_natCast];omega
   have hm2:=Y7 (mm/2^n) (show 0<2 by decide);rw[<-hr2]at an' en2;have hr2b:0<=r2∧r2<=1:=aa;obtain⟨v9,hv9⟩:∃s,s=Dc.v n (llC f n):=⟨_,rfl⟩;have hs9':s9=Dc.b n (llC f n):=hs9;have hs3n:s3'=wB f (n+2) n:=hs3';have hs6n:s6'=tI.b (n+2) (ccC f (n+2)):=hs6'
   have l2:=fun K hK=>U6 P (n:=n) aa (s1:=z) (s4:=nnQ) (s5:=s5') (s9:=s9) (b1 _) rfl (o5' _) (o9 _) lv5 K hK (nlF f n) 0 aa
   rw[<-hs3n,<-hs6n]at l2;have c8:(rO f n (nlF f n)).length=nlF f n*2:=by unfold rO;rw[d6 (fun k=>lkC (lkF f n k)) (n:=2) (fun _=>rfl)];simp
   obtain⟨v8,hv8⟩:∃v,v=ww.v (nlF f n) (rO f n (nlF f n)):=⟨_,rfl⟩;obtain⟨s8,hs8⟩:∃v,v=ww.b (nlF f n) (rO f n (nlF f n)):=⟨_,rfl⟩;rw[<-hv8,<-hs8]at l2;obtain⟨fr8,td8⟩:=oA ww (h:=m1H f z prB s3' nnQ s5' s6' nnQ s8 s9) (L:=nlF f n) (c:=rO f n (nlF f n)) (by rw[hs8];rfl) c8;rw[if_neg aa,Vi,<-hv8]at td8
   obtain⟨s8',hs8'⟩:∃s:Nat×Bk,s=(ww.e+1,.data ww.n (rO f n (nlF f n)) false fr8):=⟨_,rfl⟩;have td8':toD (m1H f z prB s3' nnQ s5' s6' nnQ s8 s9) v8=some (lkD (lkL f n),m1H f z prB s3' nnQ s5' s6' nnQ s8' s9):=by rw[td8,hs8'];rfl
   have li8:=yZ td8' (by rw[hv8];exact pU ..);have r9:ld1 (m1H f z prB s3' nnQ s5' s6' nnQ s8 s9) (.ptr 3 1 2 3)=some v9:=by rw[hs3',hv9];rfl
   have r9':=(mu _ _ _ _ _).symm.trans r9;have cl:(llC f n).length=n*1:=by simp[llC]
   obtain⟨v9',hv9'⟩:∃v,v=Dc.v (n+1) (llC f (n+1)):=⟨_,rfl⟩;obtain⟨s9',hs9'2⟩:∃v,v=Dc.b (n+1) (llC f (n+1)):=⟨_,rfl⟩;obtain⟨s3'',hs3''⟩:∃s,s=wB f (n+2) (n+1):=⟨_,rfl⟩
   have ap9:∀(q:kkQ)(u:PU q),q v9' (m1H f z prB s3' nnQ s5' s6' nnQ s8' s9')->rh (apV false 9 1 24 v9 (.d (.sl 1 [lkD (lkL f n)])) (m1H f z prB s3' nnQ s5' s6' nnQ s8' s9)) q u:=fun q u hq=>by
    rw[hv9,hs9'];refine hO Dc (L:=n) (k:=1) (cells:=llC f n) (cs:=[lkD (lkL f n)]) aa rfl cl rfl rfl (fun t e=>by cases e) aa ae ?_;rw[<-Vh,<-hv9'];rw[hs9'2]at hq;exact hq
   have sd9:∀(q:kkQ)(u:PU q),rh (stD (m1H f z prB s3' nnQ s5' s6' nnQ s8' s9') 1 (.ptr 3 1 2 3) v9') q u=q .junk (m1H f z prB s3'' nnQ s5' s6' nnQ s8' s9'):=fun q u=>by
    rw[hs3n,hs3'',hv9'];rfl
   simp(disch:=try exact ag)[sd6,gz,rb,rb',gn,sh,an',en2];refine lo (l2 _ ?_);simp[r9,r9',li8];refine ap9 _ .mk ?_;simp(disch:=try exact ag)[sd9];have o3':∀clr,dw clr 2=true->dw clr 6=true->dw clr 9=true->offB clr s3''.2=true:=fun clr h2 h6 h9=>by rw[hs3''];exact Iy f h2 h6 h9
   have o8':∀clr,offB clr s8'.2=true:=fun clr=>by rw[hs8'];rfl
   have o9':∀clr,offB clr s9'.2=true:=fun clr=>by rw[hs9'2];rfl
   refine⟨?_,?_⟩
   .simp only[clean,dT,m1H,jm,I4,bp,b1,o3' [4,5,7,8] rfl rfl rfl,o5',o6',o8',o9',mZ,Y4,Zg,X1];rfl
   .rw[e0];rw[hs3'',hs6',hs9'2];have e1:((n+1+1:Nat):Int)=(n:Int)+1+1:=aa;trivial
theorem UH{h2 h3:Hp}{a b c va vb vc:V}(ha:bJ h a=some (va,h1))(hb:bJ h1 b=some (vb,h2))(hc:bJ h2 c=some (vc,h3)):out (.agg [va,vb,vc]) (.agg [a,b,c]) h:=
 ⟨h3,by simp_all[bJ,aS]⟩
def dR(f:Nat->Int):Nat:=1+(f 0).toNat%5
def oO(f:Nat->Int):List LLQ:=(List.range (dR f)).map (chF f)
def tZ(f:Nat->Int):List (List Lk):=(List.range (dR f-1)).map (lkL f)
theorem RQ(P:GW f):CP Y F.iw [.agg (Lq f)] (.agg (wkC [2,3,5] (oO f) (tZ f))):=by
 refine ym ?_;have k0:plD f 0=.int .u8 (f 0):=by unfold plD;rw[tG aa]
 have q0:=P.u 0 aa (tG aa);have tm:(f 0).tmod 5=(f 0)%5:=Zx q0.1;have en:1+(f 0)%5=((dR f:Nat):Int):=by unfold dR;omega
 have hN:1<=dR f∧dR f<=5:=by have:=Y7 (f 0).toNat (show 0<5 by decide);unfold dR;omega
 have q0':0<=f 0%5∧f 0%5<=4:=aa;obtain⟨z,hz⟩:∃z:Nat×Bk,z=(1,.vars [.d nPQ,.d nPQ,.d nPQ]):=⟨_,rfl⟩
 have bx:∀(q:kkQ)(u:PU q),rh (cQ 0 (.agg (Lq f)) [nnQ,nnQ,nnQ,nnQ,nnQ,nnQ,nnQ,nnQ,nnQ,nnQ]) q u=q (.ptr 0 1 0 68) [plB f,nnQ,nnQ,nnQ,nnQ,nnQ,nnQ,nnQ,nnQ,nnQ]:=fun q u=>by
  have hl:(Lq f).length=68:=by simp[Lq]
  rfl
 have a1:∀(q:kkQ)(u:PU q),rh (alV 1 [.d nPQ,.d nPQ,.d nPQ] [plB f,nnQ,nnQ,nnQ,nnQ,nnQ,nnQ,nnQ,nnQ,nnQ]) q u=q (.ptr 1 1 0 3) (m1H f z nnQ nnQ nnQ nnQ nnQ nnQ nnQ nnQ):=fun q u=>by rw[hz];rfl
 have l2:∀(q:kkQ)(u:PU q),rh (rq 2 3 [.int .i64 0] [(0,(.d (.int .i64 2))),(1,(.d (.int .i64 3))),(2,(.d (.int .i64 5)))] (m1H f z nnQ nnQ nnQ nnQ nnQ nnQ nnQ nnQ)) q u=q (.ref 2 1 0 3 3 3) (m1H f z prB nnQ nnQ nnQ nnQ nnQ nnQ nnQ):=fun _ _=>rfl
 have a3:∀(q:kkQ)(u:PU q),rh (alV 3 [.d nPQ,.d nPQ,.d nPQ] (m1H f z prB nnQ nnQ nnQ nnQ nnQ nnQ nnQ)) q u=q (.ptr 3 1 0 3) (m1H f z prB (1,.vars [.d nPQ,.d nPQ,.d nPQ]) nnQ nnQ nnQ nnQ nnQ nnQ):=fun _ _=>rfl
 have s3:∀(q:kkQ)(u:PU q),rh (stD (m1H f z prB (1,.vars [.d nPQ,.d nPQ,.d nPQ]) nnQ nnQ nnQ nnQ nnQ nnQ) 3 (.ptr 3 1 0 3) (.agg [.ref 2 1 0 3 3 3,.d nPQ,.d nPQ])) q u=q .junk (m0K f z 0):=fun _ _=>rfl
 have r0:ld1 (m0K f z 0) (.ptr 0 1 0 68)=some (.d (.int .u8 (f 0))):=by rw[<-k0];exact Uu aa
 have r0':=(mu _ _ _ _ _).symm.trans r0;have cc:(ccC f (dR f)).length=dR f*1:=by simp[ccC]
 have cl:(llC f (dR f-1)).length=(dR f-1)*1:=by simp[llC]
 obtain⟨v6,hv6⟩:∃v,v=tI.v (dR f) (ccC f (dR f)):=⟨_,rfl⟩;obtain⟨v9,hv9⟩:∃v,v=Dc.v (dR f-1) (llC f (dR f-1)):=⟨_,rfl⟩;have k6:okV v6=true:=by rw[hv6];obtain⟨m,hm⟩:∃m,dR f=m+1:=⟨dR f-1,aa⟩;rw[hm];rfl
 have k9:okV v9=true:=by rw[hv9];cases(dR f-1)<;>rfl
 obtain⟨s6,hs6⟩:∃s,s=tI.b (dR f) (ccC f (dR f)):=⟨_,rfl⟩;obtain⟨s9,hs9⟩:∃s,s=Dc.b (dR f-1) (llC f (dR f-1)):=⟨_,rfl⟩;have e3:wB f (dR f) (dR f-1)=(1,.vars [.ref 2 1 0 3 3 3,v6,v9]):=by rw[hv6,hv9];rfl
 have t2:∀x s6 s9,toD (m1H f x prB (1,.vars [.ref 2 1 0 3 3 3,v6,v9]) nnQ nnQ s6 nnQ nnQ s9) (.ref 2 1 0 3 3 3)=some (row [2,3,5],m1H f x (1,.data 1 [di 2,di 3,di 5] true true) (1,.vars [.ref 2 1 0 3 3 3,v6,v9]) nnQ nnQ s6 nnQ nnQ s9):=fun _ _ _=>rfl
 have t6:∀x y s9,∃s6',toD (m1H f x y (1,.vars [.ref 2 1 0 3 3 3,v6,v9]) nnQ nnQ s6 nnQ nnQ s9) v6=some (.sl (dR f) (ccC f (dR f)),m1H f x y (1,.vars [.ref 2 1 0 3 3 3,v6,v9]) nnQ nnQ s6' nnQ nnQ s9):=fun x y s9=>by
  obtain⟨fr,td⟩:=oA tI (h:=m1H f x y (1,.vars [.ref 2 1 0 3 3 3,v6,v9]) nnQ nnQ s6 nnQ nnQ s9) (L:=dR f) (c:=ccC f (dR f)) (by rw[hs6];rfl) cc;rw[if_neg aa,<-hv6]at td;exact⟨_,td⟩
 have t9:∀x y s6,∃s9',toD (m1H f x y (1,.vars [.ref 2 1 0 3 3 3,v6,v9]) nnQ nnQ s6 nnQ nnQ s9) v9=some (.sl (dR f-1) (llC f (dR f-1)),m1H f x y (1,.vars [.ref 2 1 0 3 3 3,v6,v9]) nnQ nnQ s6 nnQ nnQ s9'):=fun x y s6=>by
  obtain⟨fr,td⟩:=oA Dc (h:=m1H f x y (1,.vars [.ref 2 1 0 3 3 3,v6,v9]) nnQ nnQ s6 nnQ nnQ s9) (L:=dR f-1) (c:=llC f (dR f-1)) (by rw[hs9];rfl) cl;rw[<-hv9]at td;by_cases h:dR f-1=0
  .grind
  .rw[if_neg h]at td;exact⟨_,td⟩
 have key:∀x:Nat×Bk,out (.agg (wkC [2,3,5] (oO f) (tZ f))) (.agg [.ref 2 1 0 3 3 3,v6,v9]) (m1H f x prB (1,.vars [.ref 2 1 0 3 3 3,v6,v9]) nnQ nnQ s6 nnQ nnQ s9):=fun x=>by
  obtain⟨s6',h6⟩:=t6 x (1,.data 1 [di 2,di 3,di 5] true true) s9;obtain⟨s9',h9⟩:=t9 x (1,.data 1 [di 2,di 3,di 5] true true) s6'
  have ec:V.d (.sl (dR f) (ccC f (dR f)))=lst aA (oO f):=by
   simp only[lst,oO,List.length_map,Y0,Yy];rfl
  have el:V.d (.sl (dR f-1) (llC f (dR f-1)))=lst lkD (tZ f):=by
   simp only[lst,tZ,List.length_map,Y0,Yy];rfl
  have sv:∀(v:V)(H H':Hp)(d:D),((∃y,v=.d y)∨∃s e o l c t,v=.ref s e o l c t)->toD H v=some (d,H')->bJ H v=some (.d d,H'):=fun v H H' d hv ht=>by
   rcases hv with⟨y,rfl⟩|⟨s,e,o,l,c,t,rfl⟩
   .simp only[toD,Z9,Z5]at ht
    simp_all
   grind[bJ]
  have e:=UH (sv _ _ _ _ (.inr ⟨_,_,_,_,_,_,rfl⟩) (t2 x s6 s9)) (sv v6 _ _ _ (by rw[hv6];exact pU ..) h6) (sv v9 _ _ _ (by rw[hv9];exact pU ..) h9);rw[ec,el]at e;exact e
 have main:=U8 P (z:=z) hN.2 (fun c=>by rw[hz];rfl) (exK [(Exit.exit 0,fun l12 h=>
  bnd (ldA h 3 (.ptr 3 1 0 3)) fun v13=>
  stD h 3 (.ptr 1 1 0 3) v13 fun _ h=>
  bnd (ldA h 3 (.ptr 1 1 0 3)) fun v15=>
  out (.agg (wkC [2,3,5] (oO f) (tZ f))) v15 h)]) (by
  have eH:m0K f z (dR f)=m1H f z prB (1,.vars [.ref 2 1 0 3 3 3,v6,v9]) nnQ nnQ s6 nnQ nnQ s9:=by
   unfold m0K;rw[e3,hs6,hs9]
  rw[eH];have l3:ldA (m1H f z prB (1,.vars [.ref 2 1 0 3 3 3,v6,v9]) nnQ nnQ s6 nnQ nnQ s9) 3 (.ptr 3 1 0 3)=some (.agg [.ref 2 1 0 3 3 3,v6,v9]):=rfl
  have sd:st (m1H f z prB (1,.vars [.ref 2 1 0 3 3 3,v6,v9]) nnQ nnQ s6 nnQ nnQ s9) 3 (.ptr 1 1 0 3) (.agg [.ref 2 1 0 3 3 3,v6,v9])=some (m1H f (1,.vars [.ref 2 1 0 3 3 3,v6,v9]) prB (1,.vars [.ref 2 1 0 3 3 3,v6,v9]) nnQ nnQ s6 nnQ nnQ s9):=by
   have hg:aw (m1H f z prB (1,.vars [.ref 2 1 0 3 3 3,v6,v9]) nnQ nnQ s6 nnQ nnQ s9) 1 1=.vars [.d nPQ,.d nPQ,.d nPQ]:=by rw[hz];rfl
   have ha:([V.ref 2 1 0 3 3 3,v6,v9].all okV)=true:=by simp only[List.all_cons,List.all_nil,k6,k9,aay,Y4]
   show(if([V.ref 2 1 0 3 3 3,v6,v9]:LwQ).length=3 then sto _ 1 1 0 3 [V.ref 2 1 0 3 3 3,v6,v9]else none)=_
   rw[if_pos (show([V.ref 2 1 0 3 3 3,v6,v9]:LwQ).length=3 from rfl)];unfold sto;rw[hg];simp only[];rw[if_pos ⟨rfl,af,ha⟩];rfl
  have l1:ldA (m1H f (1,.vars [.ref 2 1 0 3 3 3,v6,v9]) prB (1,.vars [.ref 2 1 0 3 3 3,v6,v9]) nnQ nnQ s6 nnQ nnQ s9) 3 (.ptr 1 1 0 3)=some (.agg [.ref 2 1 0 3 3 3,v6,v9]):=rfl
  grind[iP,AW,stD]) (dR f) 0 aa
 simp(disch:=try exact ag)[iw,bx,a1,l2,a3,s3,r0,r0',tm,en];exact main
theorem VV(x:Q):CP Y F.nJ [.agg (qT x)] (.agg (qT ((x.1.natAbs:Nat),x.2))):=by
 refine Fs ?_;have ab:=DW x.1;have e:itoa ((x.1.natAbs:Nat):Int)=ai x.1.natAbs:=by simp[itoa]
 have eq1:qT ((x.1.natAbs:Nat),x.2)=[S (ai x.1.natAbs),S (ai x.2)]:=by simp only[qT,e]
 rw[eq1];simp[nJ,qT];refine cd ab ?_;simp;simp[kX]
def plC(f:Nat->Int):LwQ:=(List.range 120).map fun j=>.d (plD f j)
def plZ(f:Nat->Int):Nat×Bk:=(1,.vars (plC f))
theorem afE(hj:j<120):ld1 (plZ f::H) (.ptr 0 1 j 120)=some (.d (plD f j)):=by grind[aw,plZ,plC,ld1]
theorem IY(hj:j+m<=120):ldA (plZ f::H) m (.ptr 0 1 j 120)=some (.agg ((List.range m).map fun i=>.d (plD f (j+i)))):=by grind[aw,plZ,plC,ldA,Hv]
def cnF(f:Nat->Int)(i:Nat):Nat:=1+(f (68+i)).toNat%3
def cdF(f:Nat->Int)(i:Nat):LLQ:=(List.range (cnF f i)).map fun k=>rwF f (73+i*9+k*3)
def wu:Acc:=⟨4,0,1,.none⟩
def A1:Acc:=⟨5,0,1,.none⟩
def m2H(f:Nat->Int)(s1 s2 s3 s4 s5:Nat×Bk):Hp:=[plZ f,s1,s2,s3,s4,s5]
def cdC(f:Nat->Int)(i n:Nat):LdQ:=(List.range n).map fun k=>row (rwF f (73+i*9+k*3))
theorem XO(f:Nat->Int)(i n:Nat):cdC f i (n+1)=cdC f i n++[row (rwF f (73+i*9+n*3))]:=by simp[cdC,Y3]
theorem PR(f:Nat->Int)(clr:LnQ):offB clr (plZ f).2=true:=by
 have:∀(l:LnQ),dT clr (l.map fun j=>V.d (plD f j))=true:=fun l=>by
  induction l with
  |nil=>rfl
  |cons x l ih=>trivial
 rfl
theorem XA(f:Nat->Int)(i:Nat):1<=cnF f i∧cnF f i<=3:=by grind[cnF]
theorem ad0{f:Nat->Int}(P:GW f){i:Nat}(hi:i<5){s1 s2 s5:Nat×Bk}(b1:offB [3] s1.2=true)(b2:offB [3] s2.2=true)(b5:offB [3] s5.2=true)
  (K:KL) (hK:K (.exit 2) [wu.v (cnF f i) (cdC f i (cnF f i))] (m2H f s1 s2 nnQ (wu.b (cnF f i) (cdC f i (cnF f i))) s5)) :
  ∀(m k:Nat),k+m=cnF f i ->
  lp (jR (CX Y) (.ptr 0 1 0 120) (I i)) [3] (m2H f s1 s2 nnQ nnQ s5) [wu.v k (cdC f i k),I k] (m2H f s1 s2 nnQ (wu.b k (cdC f i k)) s5) K:=by
 have k1:plD f (68+i)=.int .u8 (f (68+i)):=by unfold plD;rw[tG aa]
 have q1:=P.u (68+i) aa (tG aa)
 have ra:∀s1 s2 s3 s4 s5,ld1 (m2H f s1 s2 s3 s4 s5) (.ptr 0 1 (68+i) 120)=some (.d (.int .u8 (f (68+i)))):=fun s1 s2 s3 s4 s5=>by
  rw[<-k1];exact afE aa
 have ra':=fun s1 s2 s3 s4 s5=>(mu _ _ _ _ _).symm.trans (ra s1 s2 s3 s4 s5)
 have tm5:(i:Int).tmod 5=(i:Int):=by rw[Zx aa,Int.emod_eq_of_lt aa aa]
 have tm:(f (68+i)).tmod 3=(f (68+i))%3:=Zx q1.1;have en:1+(f (68+i))%3=((cnF f i:Nat):Int):=by unfold cnF;omega
 have q1':0<=f (68+i)%3∧f (68+i)%3<=2:=aa;have g5:(i:Int)<5:=aa;intro m
 induction m with
 | zero=>
  intro k hk;have ek:cnF f i=k:=aa;rw[ek]at hK en;refine aj ?_;simp(disch:=try exact ag)[jR,tm5,g5,ra,ra',tm,en];exact hK
 | succ m ihm=>
  intro k hk;obtain⟨h1,h3⟩:=XA f i;have ih:=ihm (k+1) aa;rw[XO]at ih;obtain⟨j,hj⟩:=nmQ (73+i*9+k*3);have hjl:j+3<=118:=aa;have k0:plD f j=.int .i8 (f j):=by unfold plD;rw[xo aa]
  have k1:plD f (j+1)=.int .i8 (f (j+1)):=by unfold plD;rw[xo aa]
  have k2:plD f (j+2)=.int .i8 (f (j+2)):=by unfold plD;rw[xo aa]
  have q0:=P.s j aa (xo aa);have q1:=P.s (j+1) aa (xo aa);have q2:=P.s (j+2) aa (xo aa)
  have r1:ldA (m2H f s1 s2 nnQ (wu.b k (cdC f i k)) s5) 3 (.ptr 0 1 j 120)=some (.agg [.d (.int .i8 (f j)),.d (.int .i8 (f (j+1))),.d (.int .i8 (f (j+2)))]):=by
   have:=IY (f:=f) (H:=[s1,s2,nnQ,wu.b k (cdC f i k),s5]) (j:=j) (m:=3) aa;rw[<-k0,<-k1,<-k2];exact this
  have r1':=(xn _ _ _ _ _ _).symm.trans r1;have c1:(cdC f i k).length=k*1:=by simp[cdC]
  have g:(k:Int)<cnF f i:=aa;have gk3:(k:Int)<3:=aa;obtain⟨x,hx⟩:=nmQ (f j);obtain⟨y,hy⟩:=nmQ (f (j+1));obtain⟨z,hz⟩:=nmQ (f (j+2));have er:rwF f j=[x.tmod 9,y.tmod 9,z.tmod 9]:=by rw[hx,hy,hz];rfl
  rw[<-hj,er]at ih;rw[<-hx,<-hy,<-hz]at r1 r1';rw[<-hx]at q0;rw[<-hy]at q1;rw[<-hz]at q2;obtain⟨s4,hs4⟩:∃s,s=wu.b k (cdC f i k):=⟨_,rfl⟩;obtain⟨v4,hv4⟩:∃s,s=wu.v k (cdC f i k):=⟨_,rfl⟩
  have fin:∀(s3:Nat×Bk)(q:kkQ)(u:PU q),q (wu.v (k+1) (cdC f i k++[row [x.tmod 9,y.tmod 9,z.tmod 9]])) (m2H f s1 s2 s3 (wu.b (k+1) (cdC f i k++[row [x.tmod 9,y.tmod 9,z.tmod 9]])) s5) ->
    rh (apV false 4 1 24 v4 (.d (.sl 1 [row [x.tmod 9,y.tmod 9,z.tmod 9]])) (m2H f s1 s2 s3 s4 s5)) q u:=fun s3 q u hq=>by
   rw[hs4,hv4];exact hO wu (L:=k) (k:=1) (cells:=cdC f i k) (cs:=[row [x.tmod 9,y.tmod 9,z.tmod 9]]) aa rfl c1 rfl rfl (fun t e=>by cases e) aa ae hq
  rw[<-hs4]at r1 r1' ⊢;rw[<-hv4];have al:∀(q:kkQ)(u:PU q),rh (alD 3 1 [.int .i8 0,.int .i8 0,.int .i8 0] (m2H f s1 s2 nnQ s4 s5)) q u=q (.ptr 3 1 0 3) (m2H f s1 s2 (1,.data 1 [.int .i8 0,.int .i8 0,.int .i8 0] true false) s4 s5):=fun _ _=>rfl
  have sd:∀(q:kkQ)(u:PU q),rh (stD (m2H f s1 s2 (1,.data 1 [.int .i8 0,.int .i8 0,.int .i8 0] true false) s4 s5) 3 (.ptr 3 1 0 3) (.agg [.d (.int .i8 x),.d (.int .i8 y),.d (.int .i8 z)])) q u=q .junk (m2H f s1 s2 (1,.data 1 [.int .i8 x,.int .i8 y,.int .i8 z] true false) s4 s5):=fun _ _=>rfl
  have t0:ld1 (m2H f s1 s2 (1,.data 1 [.int .i8 x,.int .i8 y,.int .i8 z] true false) s4 s5) (.ptr 3 1 0 3)=some (.d (.int .i8 x)):=rfl;have t1:ld1 (m2H f s1 s2 (1,.data 1 [.int .i8 x,.int .i8 y,.int .i8 z] true false) s4 s5) (.ptr 3 1 1 3)=some (.d (.int .i8 y)):=rfl;have t2:ld1 (m2H f s1 s2 (1,.data 1 [.int .i8 x,.int .i8 y,.int .i8 z] true false) s4 s5) (.ptr 3 1 2 3)=some (.d (.int .i8 z)):=rfl
  have t0':=(mu _ _ _ _ _).symm.trans t0;have t1':=(mu _ _ _ _ _).symm.trans t1;have t2':=(mu _ _ _ _ _).symm.trans t2
  have li3:∀H,cO 3 [D.int IntKind.i64 0] [(0,I (x.tmod 9)),(1,I (y.tmod 9)),(2,I (z.tmod 9))] H=some ([di (x.tmod 9),di (y.tmod 9),di (z.tmod 9)],H):=fun H=>by
   rfl
  have li1:∀H,cO 1 [nPQ] [(0,.d (.sl 3 [di (x.tmod 9),di (y.tmod 9),di (z.tmod 9)]))] H=some ([row [x.tmod 9,y.tmod 9,z.tmod 9]],H):=fun H=>by
   rfl
  refine aj ?_;simp(disch:=try exact ag)[jR,tm5,g,g5,gk3,ra,ra',tm,en,<-hj,r1,r1',al,sd,t0,t0',t1,t1',t2,t2',li3,li1];refine fin _ _ .mk ?_;have g2:biI .add (I k) (.d (.int .i64 1))=some (I ((k+1:Nat):Int)):=wE aa
  show bnd _ _
  rw[g2];have o4:∀L c,offB [3] (wu.b L c).2=true:=fun L c=>fO _ _ _ _ rfl
  have o4':∀L c,kH [3] (wu.v L c)=true:=fun L c=>oe _ _ _ _ rfl
  refine⟨?_,?_⟩
  .simp only[clean,dT,o4',m2H,jm,PR,b1,b2,b5,o4,mZ,Y4,Zg,X1];rfl
  trivial
def wF(f:Nat->Int):Q:=(((frq (f 118) (f 119).toNat).1.natAbs:Nat),(frq (f 118) (f 119).toNat).2)
def adF(f:Nat->Int):Ad where
 p:=[2,3,5]
 ch:=oO f
 lk:=tZ f
 cd:=(List.range (dR f)).map (cdF f)
 w:=wF f
def ccD(f:Nat->Int)(n:Nat):LdQ:=(List.range n).map fun i=>aA (cdF f i)
theorem XP(f:Nat->Int)(n:Nat):ccD f (n+1)=ccD f n++[aA (cdF f n)]:=by simp[ccD,Y3]
def adR(f:Nat->Int)(i:Nat):Nat×Bk:=(1,.vars [lst di [2,3,5],lst aA (oO f),lst lkD (tZ f),A1.v i (ccD f i),S (itoa (wF f).1),S (ai (wF f).2)])
theorem QR(f:Nat->Int)(h5:dw clr 5=true):offB clr (adR f i).2=true:=by
 have e1:kH clr (lst di [2,3,5])=true:=rfl;have e2:kH clr (lst aA (oO f))=true:=rfl;have e3:kH clr (lst lkD (tZ f))=true:=rfl
 simp_all[adR,offB,dT,mZ,oe,A1]
def m0H(f:Nat->Int)(z:Nat×Bk)(i:Nat):Hp:=m2H f z (adR f i) nnQ nnQ (A1.b i (ccD f i))
theorem abA(f:Nat->Int)(i:Nat):D.sl (cnF f i) (cdC f i (cnF f i))=aA (cdF f i):=by simp only[aA,cdF,List.length_map,Y0,Yy];rfl
theorem Oc(f:Nat->Int):1<=dR f∧dR f<=5:=by grind[dR]
theorem U5{f:Nat->Int}(P:GW f){z:Nat×Bk}(b1:∀c,offB c z.2=true)(K:KL)(hK:K (.exit 0) [] (m0H f z (dR f))) :
  ∀(m i:Nat),i+m=dR f ->
  lp (jS (CX Y) (.ptr 0 1 0 120) (.ptr 2 1 0 6)) [3,4] (m0H f z 0) [I i] (m0H f z i) K
 | 0,i,hi=>by
  have ei:dR f=i:=aa;rw[ei]at hK;have rc:ld1 (m0H f z i) (.ptr 2 1 1 6)=some (lst aA (oO f)):=rfl;have lc:bj (lst aA (oO f))=some (I i):=by rw[<-ei];simp[oO]
  refine aj ?_;simp[jS,rc,lc];exact hK
 | m+1,i,hi=>by
  obtain⟨c1,c5⟩:=Oc f;obtain⟨n0,n3⟩:=XA f i;have ih:=U5 P b1 K hK m (i+1) aa;have hi5:i<5:=aa;have rc:ld1 (m0H f z i) (.ptr 2 1 1 6)=some (lst aA (oO f)):=rfl;have lc:bj (lst aA (oO f))=some (I (dR f)):=by simp[oO]
  have g:(i:Int)<dR f:=aa;obtain⟨s5,hs5⟩:∃s,s=A1.b i (ccD f i):=⟨_,rfl⟩;obtain⟨v5,hv5⟩:∃s,s=A1.v i (ccD f i):=⟨_,rfl⟩;obtain⟨s2,hs2⟩:∃s,s=adR f i:=⟨_,rfl⟩;have eH:m0H f z i=m2H f z s2 nnQ nnQ s5:=by rw[hs2,hs5];rfl
  have l1:=fun K hK=>ad0 P hi5 (s1:=z) (s2:=s2) (s5:=s5) (b1 _) (by rw[hs2];exact QR f rfl) (by rw[hs5];exact fO _ _ _ _ rfl) K hK (cnF f i) 0 aa
  have c4:(cdC f i (cnF f i)).length=cnF f i*1:=by simp[cdC]
  obtain⟨v4,hv4⟩:∃v,v=wu.v (cnF f i) (cdC f i (cnF f i)):=⟨_,rfl⟩;obtain⟨s4,hs4⟩:∃v,v=wu.b (cnF f i) (cdC f i (cnF f i)):=⟨_,rfl⟩;rw[<-hv4,<-hs4]at l1;obtain⟨fr,td⟩:=oA wu (h:=m2H f z s2 nnQ s4 s5) (L:=cnF f i) (c:=cdC f i (cnF f i)) (by rw[hs4];rfl) c4;rw[if_neg aa,abA,<-hv4]at td
  obtain⟨s4',hs4'⟩:∃s:Nat×Bk,s=(wu.e+1,.data wu.n (cdC f i (cnF f i)) false fr):=⟨_,rfl⟩;have td':toD (m2H f z s2 nnQ s4 s5) v4=some (aA (cdF f i),m2H f z s2 nnQ s4' s5):=by rw[td,hs4'];rfl
  have li4:=yZ td' (by simp_all[pU]);have r3:ld1 (m2H f z s2 nnQ s4 s5) (.ptr 2 1 3 6)=some v5:=by rw[hs2,hv5];rfl
  have r3':=(mu _ _ _ _ _).symm.trans r3;have cc:(ccD f i).length=i*1:=by simp[ccD]
  obtain⟨v5',hv5'⟩:∃v,v=A1.v (i+1) (ccD f (i+1)):=⟨_,rfl⟩;obtain⟨s5',hs5'⟩:∃v,v=A1.b (i+1) (ccD f (i+1)):=⟨_,rfl⟩;obtain⟨s2',hs2'⟩:∃s,s=adR f (i+1):=⟨_,rfl⟩
  have ap5:∀(q:kkQ)(u:PU q),q v5' (m2H f z s2 nnQ s4' s5')->rh (apV false 5 1 24 v5 (.d (.sl 1 [aA (cdF f i)])) (m2H f z s2 nnQ s4' s5)) q u:=fun q u hq=>by
   rw[hv5,hs5];refine hO A1 (L:=i) (k:=1) (cells:=ccD f i) (cs:=[aA (cdF f i)]) aa rfl cc rfl rfl (fun t e=>by cases e) aa ae ?_;rw[<-XP,<-hv5'];rw[hs5']at hq;exact hq
  have sd5:∀(q:kkQ)(u:PU q),rh (stD (m2H f z s2 nnQ s4' s5') 1 (.ptr 2 1 3 6) v5') q u=q .junk (m2H f z s2' nnQ s4' s5'):=fun q u=>by
   rw[hs2,hs2',hv5'];rfl
  have g2:biI .add (I i) (.d (.int .i64 1))=some (I ((i+1:Nat):Int)):=wE aa;refine aj ?_;simp[jS,rc,lc,g];rw[eH];refine lo (l1 _ ?_);simp[r3,r3',li4];refine ap5 _ .mk ?_;simp(disch:=try exact ag)[sd5];have o2:offB [3,4] s2'.2=true:=by rw[hs2'];exact QR f rfl
  have o5:offB [3,4] s5'.2=true:=by rw[hs5'];exact fO _ _ _ _ rfl
  refine⟨?_,?_⟩
  .simp only[clean,dT,m2H,jm,PR,b1,o2,o5,mZ,Y4,Zg,X1];rfl
  .have e0:∀s4,au [3,4] 0 (m0H f z 0) (m2H f z s2' nnQ s4 s5')=m2H f z s2' nnQ nnQ s5':=fun s=>rfl
   rw[e0,hs2',hs5'];exact ih
theorem aeh(a:Int)(b:Nat):okQ (frq a b)∧(frq a b).1.natAbs<=40∧(frq a b).2<=12:=by
 have hd:=ME b;have r1 : -41<a.tmod 41:=Int.lt_tmod_of_pos a ae;have r2:=Wn a (b:=41) ae;refine⟨aaR aa,?_,?_⟩
 .unfold frq vW;rw[if_neg aa]
  show(a.tmod 41/(Nat.gcd _ _:Nat):Int).natAbs<=40
  grind[Int.natAbs_ediv_le_natAbs]
 .unfold frq vW;rw[if_neg aa]
  show(uH b).natAbs/_<=12
  exact Zu (Yu _ _) aa
theorem UG{v:V}{x:D}{a b c d e:D}(ha:norm a=a)(hb:norm b=b)(hc:norm c=c)(hd:norm d=d)(he:norm e=e)(hs:bJ h v=some (.d x,h1)):
  out (.agg [.d a,.d b,.d c,.d x,.d d,.d e]) (.agg [.d a,.d b,.d c,v,.d d,.d e]) h:=
 ⟨h1,by simp_all[bJ,aS]⟩
theorem RP(P:GW f):CP Y F.iu [.agg (plC f)] (.agg (adC (adF f))):=by
 refine yl ?_;obtain⟨c1,c5⟩:=Oc f;have mk:=RQ P;have k118:plD f 118=.int .i8 (f 118):=by unfold plD;rw[xo aa]
 have k119:plD f 119=.int .u8 (f 119):=by unfold plD;rw[tG aa]
 have q118:=P.s 118 aa (xo aa);have q119:=P.u 119 aa (tG aa);obtain⟨b,hb⟩:∃b:Nat,f 119=b:=⟨(f 119).toNat,aa⟩;have fr:=Gx (a:=f 118) (b:=b) q118 aa;have fa:=VV (frq (f 118) b);have ew:wF f=((((frq (f 118) b).1.natAbs:Nat):Int),(frq (f 118) b).2):=by unfold wF;rw[hb,Int.toNat_natCast]
 rw[<-ew]at fa;obtain⟨z,hz⟩:∃z:Nat×Bk,z=(1,.vars [.d nPQ,.d nPQ,.d nPQ,.d nPQ,.d (.str []),.d (.str [])]):=⟨_,rfl⟩
 have bx:∀(q:kkQ)(u:PU q),rh (cQ 0 (.agg (plC f)) [nnQ,nnQ,nnQ,nnQ,nnQ,nnQ]) q u=q (.ptr 0 1 0 120) [plZ f,nnQ,nnQ,nnQ,nnQ,nnQ]:=fun q u=>by
  have hl:(plC f).length=120:=by simp[plC]
  rfl
 have a1:∀(q:kkQ)(u:PU q),rh (alV 1 [.d nPQ,.d nPQ,.d nPQ,.d nPQ,.d (.str []),.d (.str [])] [plZ f,nnQ,nnQ,nnQ,nnQ,nnQ]) q u=q (.ptr 1 1 0 6) (m2H f z nnQ nnQ nnQ nnQ):=fun q u=>by rw[hz];rfl
 have l68:ldA (m2H f z nnQ nnQ nnQ nnQ) 68 (.ptr 0 1 0 120)=some (.agg (Lq f)):=by
  have:=IY (f:=f) (H:=[z,nnQ,nnQ,nnQ,nnQ]) (j:=0) (m:=68) aa;simp only[Zp]at this;exact this
 have l2:ldA (m2H f z nnQ nnQ nnQ nnQ) 2 (.ptr 0 1 118 120)=some (.agg [.d (.int .i8 (f 118)),.d (.int .u8 b)]):=by
  have:=IY (f:=f) (H:=[z,nnQ,nnQ,nnQ,nnQ]) (j:=118) (m:=2) aa;rw[<-hb,<-k118,<-k119];exact this
 have l68':=(xn _ _ _ _ _ _).symm.trans l68;have l2':=(xn _ _ _ _ _ _).symm.trans l2
 have bl:bld [(0,3),(3,1),(4,2)] [nPQ,nPQ,nPQ,nPQ,.str [],.str []] [(0,.agg (wkC [2,3,5] (oO f) (tZ f))),(2,.agg (qT (wF f)))]=some (.agg [lst di [2,3,5],lst aA (oO f),lst lkD (tZ f),.d nPQ,S (itoa (wF f).1),S (ai (wF f).2)]):=rfl
 have a2:∀(q:kkQ)(u:PU q),rh (alV 2 [.d nPQ,.d nPQ,.d nPQ,.d nPQ,.d (.str []),.d (.str [])] (m2H f z nnQ nnQ nnQ nnQ)) q u=q (.ptr 2 1 0 6) (m2H f z (1,.vars [.d nPQ,.d nPQ,.d nPQ,.d nPQ,.d (.str []),.d (.str [])]) nnQ nnQ nnQ):=fun _ _=>rfl
 have s2:∀(q:kkQ)(u:PU q),rh (stD (m2H f z (1,.vars [.d nPQ,.d nPQ,.d nPQ,.d nPQ,.d (.str []),.d (.str [])]) nnQ nnQ nnQ) 6 (.ptr 2 1 0 6) (.agg [lst di [2,3,5],lst aA (oO f),lst lkD (tZ f),.d nPQ,S (itoa (wF f).1),S (ai (wF f).2)])) q u=q .junk (m0H f z 0):=fun _ _=>rfl
 have cc:(ccD f (dR f)).length=dR f*1:=by simp[ccD]
 obtain⟨v5,hv5⟩:∃v,v=A1.v (dR f) (ccD f (dR f)):=⟨_,rfl⟩;obtain⟨s5,hs5⟩:∃s,s=A1.b (dR f) (ccD f (dR f)):=⟨_,rfl⟩;have k5:okV v5=true:=by rw[hv5];obtain⟨m,hm⟩:∃m,dR f=m+1:=⟨dR f-1,aa⟩;rw[hm];rfl
 have main:=U5 P (z:=z) (fun c=>by rw[hz];rfl) (exK [(Exit.exit 0,fun l13 h=>
  bnd (ldA h 6 (.ptr 2 1 0 6)) fun v14=>
  stD h 6 (.ptr 1 1 0 6) v14 fun _ h=>
  bnd (ldA h 6 (.ptr 1 1 0 6)) fun v16=>
  out (.agg (adC (adF f))) v16 h)]) (by
  obtain⟨A,hA⟩:∃A:LwQ,A=[lst di [2,3,5],lst aA (oO f),lst lkD (tZ f),v5,S (itoa (wF f).1),S (ai (wF f).2)]:=⟨_,rfl⟩
  have eH:m0H f z (dR f)=m2H f z (1,.vars A) nnQ nnQ s5:=by
   unfold m0H adR;rw[hA,hv5,hs5]
  rw[eH];have hl:A.length=6:=by rw[hA];rfl
  have ha:A.all okV=true:=by rw[hA];simp only[List.all_cons,List.all_nil,k5,Y4];rfl
  have l6:∀x,ldA (m2H f x (1,.vars A) nnQ nnQ s5) 6 (.ptr 2 1 0 6)=some (.agg A):=fun x=>by rw[hA];rfl
  have sd:st (m2H f z (1,.vars A) nnQ nnQ s5) 6 (.ptr 1 1 0 6) (.agg A)=some (m2H f (1,.vars A) (1,.vars A) nnQ nnQ s5):=by
   have hg:aw (m2H f z (1,.vars A) nnQ nnQ s5) 1 1=.vars [.d nPQ,.d nPQ,.d nPQ,.d nPQ,.d (.str []),.d (.str [])]:=by rw[hz];rfl
   show(if A.length=6 then sto _ 1 1 0 6 A else none)=_
   rw[if_pos hl];unfold sto;rw[hg];simp only[];rw[if_pos ⟨rfl,by grind,ha⟩];rw[hl];simp[bS,m2H]
  have l1:ldA (m2H f (1,.vars A) (1,.vars A) nnQ nnQ s5) 6 (.ptr 1 1 0 6)=some (.agg A):=by rw[hA];rfl
  simp only[iP,l6,AW,stD,sd,l1];obtain⟨fr5,td⟩:=oA A1 (h:=m2H f (1,.vars A) (1,.vars A) nnQ nnQ s5) (L:=dR f) (c:=ccD f (dR f)) (by rw[hs5];rfl) cc;rw[if_neg aa,<-hv5]at td
  have sv:bJ (m2H f (1,.vars A) (1,.vars A) nnQ nnQ s5) v5=some (.d (.sl (dR f) (ccD f (dR f))),(m2H f (1,.vars A) (1,.vars A) nnQ nnQ s5).set A1.s (A1.e+1,.data A1.n (ccD f (dR f)) false fr5)):=by
   obtain⟨m,hm⟩:∃m,dR f=m+1:=⟨dR f-1,aa⟩;have hr:∃s e o l c t,v5=.ref s e o l c t:=by rw[hv5,hm];exact⟨_,_,_,_,_,_,rfl⟩
   obtain⟨s,e,o,l,c,t,hr⟩:=hr;rw[hr]at td ⊢;simp only[bJ,td]
  have ec:V.d (.sl (dR f) (ccD f (dR f)))=lst aA (adF f).cd:=by
   simp only[lst,adF,List.length_map,Y0,Yy];rfl
  have o:=UG (a:=row [2,3,5]) (b:=.sl (oO f).length ((oO f).map aA)) (c:=.sl (tZ f).length ((tZ f).map lkD)) (d:=.str (itoa (wF f).1)) (e:=.str (ai (wF f).2)) rfl rfl rfl rfl rfl sv;rw[ec]at o;rw[hA];rw[hA]at o;exact o) (dR f) 0 aa
 simp[iu,bx,a1,l68,l68'];refine cd mk ?_ (by rfl);simp[l2,l2'];refine cd fr ?_;simp;refine cd fa ?_ (by rfl);simp[bl,a2,s2];exact main
theorem QI(f:Nat->Int)(i:Nat):(chF f i).length=ntF f i:=by simp[chF]
theorem aeI(P:GW f):cI (adF f):=by
 obtain⟨c1,c5⟩:=Oc f;obtain⟨w1,w2,w3⟩:=aeh (f 118) (f 119).toNat
 have hch:∀c∈oO f,(1<=c.length∧c.length<=3)∧∀r∈c,r.length=3∧bdR 8 r:=fun c hc=>by
  grind[oO,HB,chF,TH]
 have hcd:∀c∈(adF f).cd,(1<=c.length∧c.length<=3)∧∀r∈c,r.length=3∧bdR 8 r:=fun c hc=>by
  grind[adF,XA,cdF,TH]
 have hlk:∀l∈tZ f,1<=l.length∧l.length<=2:=fun l hl=>by
  grind[tZ,P0,lkL]
 have lch:(oO f).length=dR f:=by simp[oO]
 have llk:(tZ f).length=dR f-1:=by simp[tZ]
 refine ⟨abc.hp,⟨by show(tZ f).length+1=(oO f).length;omega,by show(oO f).length<=64;omega,fun c hc=>(hch c hc).2,fun c hc=>by have:=(hch c hc).1;omega,fun l hl=>by have:=hlk l hl;omega,fun i hi=>?_⟩,fun l hl=>(hlk l hl).1,fun c hc=>(hch c hc).1.1,by show(oO f).length<=5;omega,
  by show((List.range (dR f)).map (cdF f)).length=(oO f).length;grind,fun l hl=>by grind,fun l hl=>(hcd l hl).2,⟨⟨w1.1,by show Nat.gcd (((frq (f 118) (f 119).toNat).1.natAbs:Nat):Int).natAbs _=1;rw[Int.natAbs_natCast];exact w1.2⟩,Int.natCast_nonneg _,by show(((frq (f 118) (f 119).toNat).1.natAbs:Nat):Int)<=1000;omega,by show(frq (f 118) (f 119).toNat).2<=1000;omega⟩⟩
 have hi':i<dR f-1:=by rw[<-llk];exact hi
 show(nth [] (tZ f) i).all (BJ (nth [] (oO f) i).length (nth [] (oO f) (i+1)).length)=true
 unfold tZ oO;rw[jH _ _ hi',jH _ _ (show i<dR f by omega),jH _ _ (show i+1<dR f by omega),QI,QI];refine Zv.2 fun x hx=>?_
 simp only[lkL,Zc,X6]at hx;obtain⟨k,hk,rfl⟩:=hx;have hk2:=(P0 f i).2;have n1:=HB f i;have n2:=HB f (i+1);have q1:=P.u (51+i*4+k*2) aa (tG aa);have q2:=P.u (51+i*4+k*2+1) aa (tG aa);refine LV.2 ⟨⟨Int.tmod_nonneg _ q1.1,Wn _ aa⟩,Int.tmod_nonneg _ q2.1,Wn _ aa⟩
theorem SC(f:Nat->Int):tE (adF f).p:=YK
def lsD(x:LnQ):D:=.sl x.length (x.map dn)
def c5H(a:Ad)(s1 s2 s3 s4:Nat×Bk):Hp:=[adB a,s1,s2,s3,s4]
structure aeM(a:Ad)(i:Nat)(out:List LnQ)(v:V)(s4:Nat×Bk):Prop where
 td:∃b0,(∀clr,offB clr b0=true)∧toD (c5H a nnQ nnQ nnQ s4) v=some (.sl out.length (out.map lsD),c5H a nnQ nnQ nnQ (i,b0))
 ov:kH [1,2,3] v=true
 ln:bj v=some (I out.length)
 ob:offB [1,2,3] s4.2=true
 kd:(∃y,v=.d y)∨∃s e o l c t,v=.ref s e o l c t
open Go.Ada
def ofL(l:LiQ):Vec:=⟨nth 0 l 0,nth 0 l 1,nth 0 l 2⟩
def eV(a:Ad)(k i j:Nat):Vec:=ofL (stW a k i j)
structure Rd(a:Ad)(H:Hp)(s:Nat):Prop where
 l6:ldA H 6 (.ptr s 1 0 6)=some (.agg (adC a))
 l3:ldA H 3 (.ptr s 1 0 6)=some (.agg (wkC a.p a.ch a.lk))
 rl:ld1 H (.ptr s 1 2 6)=some (lst lkD a.lk)
 rc:ld1 H (.ptr s 1 3 6)=some (lst aA a.cd)
theorem abv{p:LiQ}{a:List Q}(hp:pcS p)(ha:a.length=p.length)(oa:okS a):CP Y F.gX [lst di p,szV a,szV []] (.tup [I 0,I 5]):=by
 refine wO ?_;obtain⟨hin,h0⟩:=eh hp;have h6:=hin.2.1
 have ca:=xx (p:=p) (l:=[a,[]]) aa af (fun s hs=>by
  simp at hs;rcases hs with rfl|rfl
  .exact⟨oa,aa⟩
  .exact⟨fun x hx=>(by cases hx),af⟩)
 have e:GT p.length [a,[]]=5:=by
  simp only[GT];rw[if_pos ha,if_neg (by grind)]
 rw[if_pos hp.1,e]at ca;have l1:∀H,cO 2 [nPQ] [(0,szV a),(1,szV [])] H=some ([szD a,szD []],H):=fun H=>Vt ..
 simp[gX,l1];refine cd (v:=I 5) ca ?_ (by rfl);simp;simp[aG]
theorem abt{p:LiQ}(hp:pcS p){b Cd:Nat}(hb:0<b)(hb1:b<1000000)(lr:r.length=p.length)(lt:t.length=p.length)(hr:bdN Bd r)(ht:bdN Cd t)(hB:Bd<1000000000000)(hC:Cd<1000000000000):
  ∃z,CP Y F.gX [lst di p,szV (szI b r),szV (szI b t)] (.tup [I z,I 0])∧(z<0↔wI p r<wI p t)∧(z<=0↔wI p r<=wI p t):=by
 obtain⟨hi,h0⟩:=eh hp;have hN:=hi.2.1;have m1:Bd*b<=1000000000000*1000000:=Zn aa aa;have m2:Cd*b<=1000000000000*1000000:=Zn aa aa;have sg:=acJ hi (by rw[ci,lr]) (by rw[ci,lt]) hb hb (oi hb r) (oi hb t) hr ht aa
 have co:=FY hp.1 aa (by rw[ci,lr]) (by rw[ci,lt]) (qd hb aa hr aa) (qd hb aa ht aa) sg;refine⟨_,co,?_⟩;rw[<-Int.sub_mul,u5 aa];unfold wI;rcases Int.lt_trichotomy (bE r (L5 p)) (bE t (L5 p))with h|h|h
 .rw[X2 aa];omega
 .grind
 .rw[X3 aa];omega
abbrev zs(x:LnQ):LiQ:=x.map fun(n:Nat)=>(n:Int)
def wG(a:Ad)(i k:Nat):Nat->LiQ->LLQ->LiQ
 |_,x,[]=>x
 |c,x,be::q=>wG a i k (c+1) (if c=0∨wI a.p (dI 1 (dI 1 be (stW a i c k)) (uB a (i+1) k))<wI a.p x then dI 1 (dI 1 be (stW a i c k)) (uB a (i+1) k)else x) q
theorem BP(G:cI a)(hi:i<a.cd.length)(H:Hp):ixV H 1 (.d (ia a.w.2 (dL a))) (I i)=some (.dptr ((dL a).map (szL a.w.2)) i)∧ld1 H (.dptr ((dL a).map (szL a.w.2)) i)=some (.d (szL a.w.2 (nth [] (dL a) i))):=by have hl:=vf G;exact⟨aJ (szL a.w.2) _ H rfl aa,aC (szL a.w.2) [] (dL a) H aa⟩
theorem M3(b:Nat)(o:LLQ)(hi:i<o.length)(H:Hp):ixV H 1 (.d (szL b o)) (I i)=some (.dptr (o.map (szE b)) i)∧ld1 H (.dptr (o.map (szE b)) i)=some (szV (szI b (nth [] o i))):=
 ⟨aJ (szE b) _ H rfl hi,aC (szE b) [] o H hi⟩
theorem Qn(G:cI a)(hb:tE a.p){H:Hp}(R:Rd a H 1)(rp:ld1 H (.ptr 1 1 0 6)=some (lst di a.p)){i k:Nat}(hi:i+1<a.cd.length)(hk:k<(nth [] a.cd (i+1)).length)(K:KL) :
  ∀(q d:LLQ)(x:LiQ),d++q=nth [] (dL a) i->x.length=a.p.length->bdN 300000000 x->K (.exit 4) [szV (szI a.w.2 (wG a i k d.length x q))] H ->
  lp (aV (CX Y) (.ptr 1 1 0 6) (.d (ia a.w.2 (dL a))) (mat (mb a)) (I ((i:Int)+1)) (I k)) [] H [szV (szI a.w.2 x),I d.length] H K
 | [],d,x,hd,hx,hxb,hK=>by
  have hcl:=G.cl;have h5:=G.five;have e:(nth [] (dL a) i).length=d.length:=by rw[<-hd];simp
  obtain⟨i1,i2⟩:=BP G (i:=i) aa H;have lm:bj (.d (szL a.w.2 (nth [] (dL a) i)))=some (I (nth [] (dL a) i).length):=rfl;rw[e]at lm;have g0:(0:Int)<(i:Int)+1:=aa;refine aj ?_;simp(disch:=try exact ag)[aV,g0,i1,i2,lm];exact hK
 | be::q,d,x,hd,hx,hxb,hK=>by
  have hcl:=G.cl;have h5:=G.five;have hlen:=G.wk.len;obtain⟨w1,w2,w3,w4⟩:=G.w0;obtain⟨p1,p2⟩:=wT G (k:=i) aa;have hN:=(eh G.hp).1.2.1;have e:(nth [] (dL a) i).length=d.length+(q.length+1):=by rw[<-hd];simp
  have hn:=(G.cn _ (aQ (d:=[]) (show i<a.cd.length by omega))).2;have hc:d.length<(nth [] a.cd i).length:=aa;obtain⟨b1,b2⟩:=p2 be (by rw[<-hd];simp);have hnb:nth [] (nth [] (dL a) i) d.length=be:=by rw[<-hd,bM]
  obtain⟨i1,i2⟩:=BP G (i:=i) aa H;have lm:bj (.d (szL a.w.2 (nth [] (dL a) i)))=some (I (nth [] (dL a) i).length):=rfl;obtain⟨j1,j2⟩:=M3 a.w.2 (nth [] (dL a) i) (i:=d.length) aa H;rw[hnb]at j2;have l6:=R.l6;have l6':=(xn _ _ _ _ _ _).symm.trans l6;have rp':=(mu _ _ _ _ _).symm.trans rp
  obtain⟨s1,s2⟩:=G.stepW (i:=i) (f:=d.length) (t:=k) aa hc hk;obtain⟨o1,o2⟩:=G.ownW hi hk;have st:=aaP G hb (i:=i) (f:=d.length) (t:=k) aa hc hk;rw[Ny w1.1]at st;have ad1:=Js (b:=a.w.2) (r:=be) (t:=stW a i d.length k) w1.1 aa aa aa b2 s2 ae ae
  have v1:(dI 1 be (stW a i d.length k)).length=a.p.length:=by rw[hQ _ aa,b1]
  have vb1:=lE b2 s2;have ow:=aaQ G hb hi hk;have ad2:=Js (b:=a.w.2) (r:=dI 1 be (stW a i d.length k)) (t:=uB a (i+1) k) w1.1 aa aa aa vb1 o2 ae ae;have v2:(dI 1 (dI 1 be (stW a i d.length k)) (uB a (i+1) k)).length=a.p.length:=by rw[hQ _ aa,v1]
  have vb2:bdN 300000000 (dI 1 (dI 1 be (stW a i d.length k)) (uB a (i+1) k)):=qV (lE vb1 o2) ae;simp only[wG]at hK
  change CP Y F.ik _ (szV (szI a.w.2 (stW a i d.length k)))at st
  generalize hT:dI 1 (dI 1 be (stW a i d.length k)) (uB a (i+1) k)=T at *;obtain⟨z,cw,z1,z2⟩:=abt G.hp w1.1 aa (b:=a.w.2) v2 hx vb2 hxb aa aa;have g0:(0:Int)<(i:Int)+1:=aa;have g:(d.length:Int)<(nth [] (dL a) i).length:=aa;have e2:((d++[be]).length:Int)=(d.length:Int)+1:=af;have e3:(d++[be]).length=d.length+1:=af
  have hre:au [] 0 H H=H:=aX 0 H H rfl;have ih:=fun y hy hyb hK=>Qn G hb R rp hi hk K q (d++[be]) y (by simpa using hd) hy hyb hK
  rw[e3]at ih
  have main:∀y,y.length=a.p.length->bdN 300000000 y->K (.exit 4) [szV (szI a.w.2 (wG a i k (d.length+1) y q))] H ->
    lp (aV (CX Y) (.ptr 1 1 0 6) (.d (ia a.w.2 (dL a))) (mat (mb a)) (I ((i:Int)+1)) (I k)) [] H [szV (szI a.w.2 y),I ((d.length:Int)+1)] H K:=ih
  refine aj ?_;simp(disch:=try exact ag)[aV,g0,i1,i2,lm,g];refine aT ?_;simp(disch:=try exact ag)[i1,i2,j1,j2,l6,l6'];refine cd st ?_;simp;refine cd ad1 ?_ (by rfl);simp[l6,l6'];refine cd ow ?_;simp;refine cd ad2 ?_ (by rfl);simp[rp,rp'];refine cd cw ?_ (by rfl);by_cases c0:d.length=0
  .rw[if_pos (.inl c0)]at hK;have c0':d=[]:=Xq.1 c0;have:=main T v2 vb2 hK;simp[c0'];refine aT ?_;simp(disch:=try exact ag)[hre];exact this
  .have c0':¬d=[]:=fun e=>c0 (by rw[e];rfl)
   by_cases h:wI a.p T<wI a.p x
   .rw[if_pos (.inr h)]at hK;have:=main T v2 vb2 hK;have hz:z<0:=z1.2 h;simp[c0',hz];refine aT ?_;simp(disch:=try exact ag)[hre];exact this
   .rw[if_neg aa]at hK;have:=main x hx hxb hK;have hz:¬z<0:=fun k=>h (z1.1 k)
    simp[c0',hz];refine aT ?_;simp(disch:=try exact ag)[hre];exact this
theorem S6{b:LiQ}(h:b.length=a.p.length):sN (List.replicate a.p.length 0) [uB a (i+1) k,stW a i c k,b]=dI 1 (dI 1 b (stW a i c k)) (uB a (i+1) k):=by rw[Ix];simp only[sN];rw[sL 1 h,Jk]
theorem JW(i k:Nat):∀(q:LLQ)(c:Nat)(x:LiQ),(∀b∈q,b.length=a.p.length) ->
  CR a.p (some x) (uB a (i+1) k) (List.replicate a.p.length 0) ((List.range' (c+1) q.length).map fun c=>stW a i c k) q=some (wG a i k (c+1) x q)
 |[],c,x,_=>rfl
 | b::q,c,x,hq=>by
  simp only[List.length_cons,List.range'_succ,Z2,CR,wG];rw[S6 (hq b af),JW i k q (c+1) _ (fun b hb=>hq b (by simp[hb]))];simp
theorem OO(G:cI a)(hi:i+1<a.cd.length)(hk:k<(nth [] a.cd (i+1)).length)(x:LiQ):wG a i k 0 x (nth [] (dL a) i)=nth [] (nth [] (dL a) (i+1)) k:=by
 obtain⟨p1,p2⟩:=wT G (k:=i) aa;have n0:=(G.cn _ (aQ (d:=[]) (show i<a.cd.length by omega))).1
 have e:yk k (ko a i)=(List.range' 0 (nth [] a.cd i).length).map fun c=>stW a i c k:=by
  rw[<-List.range_eq_range'];simp[yk,ko,Q6 hk]
 rw[Df G hi,D9 _ _ _ (by rw[El];exact hk),vH hk,Zp,e,<-p1];rw[<-p1]at n0;generalize nth [] (dL a) i=P at *;cases P with
 |nil=>simp at n0
 | cons b q=>
  simp only[List.length_cons,List.range'_succ,Z2,CR,wG];rw[S6 (p2 b af).1,JW i k q 0 _ (fun b hb=>(p2 b (by simp[hb])).1)];simp
theorem AA(p:LiQ)(cs:LLQ)(y:LiQ):∀(d:LLQ)(b i:Nat),tC p cs b i (d++[y])=if wI p y<wI p (nth [] cs (tC p cs b i d))then i+d.length else tC p cs b i d
 |[],b,i=>rfl
 | x::d,b,i=>by
  simp only[List.cons_append,tC,AA p cs y d,List.length_cons,show i+1+d.length=i+(d.length+1) by omega];rfl
def olV(b:Nat)(x:LiQ):V:=if x=[]then .d nPQ else szV (szI b x)
theorem Sj(b:Nat)(p x:LiQ)(s:List Q)(H:Hp):aS H [lst di p,szV s,olV b x]=some ([lst di p,szV s,szV (szI b x)],H):=by
 by_cases e:x=[]
 .subst e;rfl
 .rw[olV,if_neg e];rfl
theorem QG(G:cI a)(hb:tE a.p){H:Hp}(R:Rd a H 1)(rp:ld1 H (.ptr 1 1 0 6)=some (lst di a.p)){i:Nat}(hi:i<a.cd.length)(K:KL) :
  ∀(q d:LLQ)(x:LiQ),d++q=nth [] (dL a) i->(x=[]∨x.length=a.p.length∧bdN 300000000 x)->(i+1=a.cd.length->0<d.length->x=nth [] (nth [] (dL a) i) (tC a.p (nth [] (dL a) i) 0 0 d)) ->
  (∀y,(y=[]∨y.length=a.p.length∧bdN 300000000 y)->(i+1=a.cd.length->y=k8 a)->K (.exit 2) [olV a.w.2 y] H) ->
  lp (et (CX Y) (.ptr 1 1 0 6) (.d (ia a.w.2 (dL a))) (mat (mb a)) (I i)) [] H [olV a.w.2 x,I d.length] H K
 | [],d,x,hd,hx,hxe,hK=>by
  have hcl:=G.cl;have h5:=G.five;obtain⟨p1,p2⟩:=wT G hi;have n0:=(G.cn _ (aQ (d:=[]) hi)).1;have e:(nth [] (dL a) i).length=d.length:=by rw[<-hd];simp
  have hd':d=nth [] (dL a) i:=by simpa using hd
  obtain⟨i1,i2⟩:=BP G hi H;have lm:bj (.d (szL a.w.2 (nth [] (dL a) i)))=some (I (nth [] (dL a) i).length):=rfl;rw[e]at lm
  have:=hK x hx fun h=>by
   rw[hxe h aa,hd'];exact Jz G h
  refine aj ?_;simp(disch:=try exact ag)[et,i1,i2,lm];exact this
 | y::q,d,x,hd,hx,hxe,hK=>by
  have hcl:=G.cl;have h5:=G.five;obtain⟨w1,w2,w3,w4⟩:=G.w0;obtain⟨p1,p2⟩:=wT G hi;have hN:=(eh G.hp).1.2.1;have hpl:=vf G;have e:(nth [] (dL a) i).length=d.length+(q.length+1):=by rw[<-hd];simp
  have hn:=(G.cn _ (aQ (d:=[]) hi)).2;have hk:d.length<(nth [] a.cd i).length:=aa;obtain⟨y1,y2⟩:=p2 y (by rw[<-hd];simp);have y3:bdN 300000000 y:=qV y2 ae;have hny:nth [] (nth [] (dL a) i) d.length=y:=by rw[<-hd,bM]
  obtain⟨o1,o2⟩:=G.ownW hi hk;obtain⟨i1,i2⟩:=BP G hi H;have lm:bj (.d (szL a.w.2 (nth [] (dL a) i)))=some (I (nth [] (dL a) i).length):=rfl;obtain⟨j1,j2⟩:=M3 a.w.2 (nth [] (dL a) i) (i:=d.length) aa H;rw[hny]at j2;have lq:bj (.d (ia a.w.2 (dL a)))=some (I (dL a).length):=rfl;rw[hpl]at lq;have l6:=R.l6;have l6':=(xn _ _ _ _ _ _).symm.trans l6
  have rp':=(mu _ _ _ _ _).symm.trans rp;have ow:=aaQ G hb hi hk;have sa:=Hk (r:=szI a.w.2 y) (by rw[ci];omega);have g:(d.length:Int)<(nth [] (dL a) i).length:=aa;have e2:((d++[y]).length:Int)=(d.length:Int)+1:=af;have hre:au [] 0 H H=H:=aX 0 H H rfl
  have c5:∃z f,CP Y F.gX [lst di a.p,szV (szI a.w.2 y),szV (szI a.w.2 x)] (.tup [I z,I f])∧(0<x.length->(z<0↔wI a.p y<wI a.p x)):=by
   rcases hx with rfl|⟨x1,x2⟩
   .exact⟨_,_,abv G.hp (by rw[ci,y1]) (qd w1.1 aa y2 aa),fun h=>by simp at h⟩
   .obtain⟨z,cw,z1,_⟩:=abt G.hp w1.1 aa (b:=a.w.2) y1 x1 y3 x2 aa aa;exact⟨z,0,cw,fun _=>z1⟩
  obtain⟨z,f,cw,hz⟩:=c5;have ih:=fun x' h1 h2=>QG G hb R rp hi K q (d++[y]) x' (by simpa using hd) h1 h2 hK
  rw[e2]at ih
  -- what the loop over the candidates before finds
  have l2:∀(K2:KL),K2 (.exit 4) [szV (szI a.w.2 y)] H->lp (aV (CX Y) (.ptr 1 1 0 6) (.d (ia a.w.2 (dL a))) (mat (mb a)) (I i) (I d.length)) [] H [szV (szI a.w.2 (uB a i d.length)),I 0] H K2:=fun K2 h=>by
   cases i with
   | zero=>
    have:uB a 0 d.length=y:=by rw[<-hny];exact(vH hk).symm
    rw[this];refine aj ?_;simp[aV];exact h
   | succ i=>
    have:=Qn G hb R rp hi hk K2 (nth [] (dL a) i) [] _ rfl o1 (qV o2 ae) (by
     show K2 (.exit 4) [szV (szI a.w.2 (wG a i d.length 0 (uB a (i+1) d.length) (nth [] (dL a) i)))] H
     rw[OO G hi hk,hny];exact h)
    exact this
  have hp0:=(eh G.hp).2;refine aj ?_;simp(disch:=try exact ag)[et,i1,i2,lm,g];refine aT ?_;simp(disch:=try exact ag)[l6,l6'];refine cd ow ?_;simp;refine lo (l2 _ ?_);simp(disch:=try exact ag)[i1,i2,j1,j2];refine cd sa ?_ (by rfl);simp[rp,rp'];refine cdx (Sj a.w.2 a.p x _ _) cw ?_
  have ey:olV a.w.2 y=szV (szI a.w.2 y):=if_neg (by rintro rfl;simp at y1;omega);by_cases hL:i+1=a.cd.length
  .have gL:(i:Int)=(a.cd.length:Int)-1:=aa;by_cases c0:d.length=0
   .have c0':d=[]:=Xq.1 c0
    have:=ey▸ih y (.inr ⟨y1,y3⟩) (fun _ _=>by
     subst c0';have:nth [] (nth [] (dL a) i) 0=y:=hny;simp[tC,this])
    simp(disch:=try exact ag)[lq,gL,c0'];refine aT ?_;simp(disch:=try exact ag)[hre];exact this
   .have c0':¬d=[]:=fun e=>c0 (by rw[e];rfl)
    have hx1:=hxe hL aa;have am:tC a.p (nth [] (dL a) i) 0 0 d<(nth [] (dL a) i).length:=M2 d 0 0 aa aa;have xl:x.length=a.p.length:=by rw[hx1];exact(p2 _ (aQ am)).1
    have hz:=hz aa;by_cases h:wI a.p y<wI a.p x
    .have:=ey▸ih y (.inr ⟨y1,y3⟩) (fun _ _=>by rw[AA,<-hx1,if_pos h,Zp,hny]);have hz:z<0:=hz.2 h;simp(disch:=try exact ag)[lq,gL,c0',hz];refine aT ?_;simp(disch:=try exact ag)[hre];exact this
    .have:=ih x hx (fun _ _=>by rw[AA,<-hx1,if_neg h,<-hx1]);have hz:¬z<0:=fun k=>h (hz.1 k)
     simp(disch:=try exact ag)[lq,gL,c0',hz];refine aT ?_;simp(disch:=try exact ag)[hre];exact this
  .have gL:¬(i:Int)=(a.cd.length:Int)-1:=aa;have:=ih x hx (fun h=>absurd h hL);simp(disch:=try exact ag)[lq,gL];refine aT ?_;simp(disch:=try exact ag)[hre];exact this
theorem QH(G:cI a)(hb:tE a.p){H:Hp}(R:Rd a H 1)(rp:ld1 H (.ptr 1 1 0 6)=some (lst di a.p))(K:KL) :
  ∀(n i:Nat)(x:LiQ),i+n=a.cd.length->(x=[]∨x.length=a.p.length∧bdN 300000000 x)->(n=0->x=k8 a)->K (.exit 0) [olV a.w.2 (k8 a)] H ->
  lp (eT (CX Y) (.ptr 1 1 0 6) (.d (ia a.w.2 (dL a))) (mat (mb a))) [] H [olV a.w.2 x,I i] H K
 | 0,i,x,hi,hx,hxe,hK=>by
  have hpl:=vf G;have lq:bj (.d (ia a.w.2 (dL a)))=some (I (dL a).length):=rfl;rw[hpl]at lq;rw[hxe rfl];refine aj ?_;simp(disch:=try exact ag)[eT,lq];exact hK
 | n+1,i,x,hi,hx,hxe,hK=>by
  have hcl:=G.cl;have h5:=G.five;have hpl:=vf G;have hic:i<a.cd.length:=aa;obtain⟨p1,p2⟩:=wT G hic;have lq:bj (.d (ia a.w.2 (dL a)))=some (I (dL a).length):=rfl;rw[hpl]at lq;obtain⟨i1,i2⟩:=BP G hic H;have lm:bj (.d (szL a.w.2 (nth [] (dL a) i)))=some (I (nth [] (dL a) i).length):=rfl;rw[p1]at lm;have rc:=R.rc;have rc':=(mu _ _ _ _ _).symm.trans rc
  have j1:ixV H 1 (lst aA a.cd) (I i)=some (.dptr (a.cd.map aA) i):=aJ aA _ H rfl hic;have j2:ld1 H (.dptr (a.cd.map aA) i)=some (mat (nth [] a.cd i)):=aC aA [] a.cd H hic;have lm2:bj (mat (nth [] a.cd i))=some (I (nth [] a.cd i).length):=rfl;have g:(i:Int)<a.cd.length:=aa;have e2:((i+1:Nat):Int)=(i:Int)+1:=af;have hre:au [] 0 H H=H:=aX 0 H H rfl
  have l1:=fun K2 hK2=>QG G hb R rp hic K2 (nth [] (dL a) i) [] x rfl hx (fun _ h=>by simp at h) hK2
  refine aj ?_;simp(disch:=try exact ag)[eT,lq,i1,i2,lm,rc,rc',j1,j2,lm2,g];refine lo (l1 _ fun y hy hye=>?_);simp(disch:=try exact ag)[hre];have:=QH G hb R rp K n (i+1) y aa hy (fun h=>hye aa) hK;rw[e2]at this;exact this
theorem Nt(P:GW f):CP Y F.dk [.agg (plC f)] (B true):=by
 refine nT ?_;have mk:=RP P;have G:=aeI P;have hb:=SC f;obtain⟨a,ha⟩:=nmQ (adF f);rw[<-ha]at mk G hb;have hcl:=G.cl;have h5:=G.five;have hlen:=G.wk.len;have hpl:=vf G
 have bx:∀(q:kkQ)(u:PU q),rh (cQ 0 (.agg (plC f)) [nnQ,nnQ]) q u=q (.ptr 0 1 0 120) [plZ f,nnQ]:=fun q u=>by
  have hl:(plC f).length=120:=by simp[plC]
  rfl
 have l120:ldA [plZ f,nnQ] 120 (.ptr 0 1 0 120)=some (.agg (plC f)):=by
  have:=IY (f:=f) (H:=[nnQ]) (j:=0) (m:=120) aa;simp only[Zp]at this;exact this
 have l120':=(xn _ _ _ _ _ _).symm.trans l120
 have a1:∀(q:kkQ)(u:PU q),rh (alV 1 [.d nPQ,.d nPQ,.d nPQ,.d nPQ,.d (.str []),.d (.str [])] [plZ f,nnQ]) q u=q (.ptr 1 1 0 6) [plZ f,(1,.vars [.d nPQ,.d nPQ,.d nPQ,.d nPQ,.d (.str []),.d (.str [])])]:=fun _ _=>rfl
 have sd:∀(q:kkQ)(u:PU q),rh (stD [plZ f,(1,.vars [.d nPQ,.d nPQ,.d nPQ,.d nPQ,.d (.str []),.d (.str [])])] 6 (.ptr 1 1 0 6) (.agg (adC a))) q u=q .junk [plZ f,adB a]:=fun _ _=>rfl
 obtain⟨H,hH⟩:∃H:Hp,H=[plZ f,adB a]:=⟨_,rfl⟩;have R:Rd a H 1:=by rw[hH];exact⟨rfl,rfl,rfl,rfl⟩
 have rp:ld1 H (.ptr 1 1 0 6)=some (lst di a.p):=by rw[hH];rfl
 rw[<-hH]at sd;have l6:=R.l6;have l3:=R.l3;have rc:=R.rc;have l6':=(xn _ _ _ _ _ _).symm.trans l6;have l3':=(xn _ _ _ _ _ _).symm.trans l3;have rc':=(mu _ _ _ _ _).symm.trans rc
 have sp:∀H,aS H [.agg (plC f)]=some ([.agg (plC f)],H):=fun H=>by
  rfl
 obtain⟨hin,hp0⟩:=eh G.hp;have h61:=hin.2.1;have po:=HC G;have bo:=QW G;have lr:=RR (p:=a.p) G.wk aa aa aa G.lkn;obtain⟨ll,_⟩:=Ij G;have sa:=Hk (r:=szI a.w.2 (k8 a)) (by rw[ci];omega);have eo:olV a.w.2 (k8 a)=szV (szI a.w.2 (k8 a)):=if_neg (by intro e;rw[e]at ll;simp at ll;omega)
 have lq:bj (.d (ia a.w.2 (dL a)))=some (I (dL a).length):=rfl;rw[hpl]at lq;have lc:bj (lst aA a.cd)=some (I a.cd.length):=rfl;have l0:=fun K2 h=>QH G hb R rp K2 a.cd.length 0 [] aa (.inl rfl) (fun h=>by have:=G.wk.len;omega) (eo▸h)
 simp[dk,bx];refine cd Oj ?_;simp[l120,l120'];refine cd mk ?_ (sp _);simp[a1,sd,l6,l6'];refine cd po ?_ ;simp[l6,l6'];refine cd bo ?_;simp[l3,l3'];refine cd lr ?_;simp[rc,rc',lq,lc];refine lo (l0 _ ?_);simp;refine cd sa ?_ (by rfl);simp
end Go.Vm
namespace Go.Proofs
open Go.Shelf
def Tryz.laysPu14_ren:Go.Shelf.Ren:=⟨fun|14=>170|16=>175|17=>142|19=>183|20=>184|21=>161|22=>162|23=>163|24=>164|25=>176|27=>88|26=>177|28=>118|29=>143|30=>165|31=>166|32=>167|33=>168|35=>158|34=>178|36=>179|37=>180|38=>181|39=>185|40=>186|n=>n,fun|9=>9|3=>3|22=>180|24=>182|25=>237|4=>4|34=>226|5=>5|36=>207|37=>218|0=>0|39=>229|21=>21|44=>244|47=>254|50=>257|48=>255|2=>2|52=>232|55=>234|59=>248|60=>249|20=>20|61=>250|65=>258|66=>259|67=>260|n=>n,fun|0=>0|1=>1|2=>2|3=>3|4=>4|n=>n⟩
theorem Tryz.laysPu14:Go.Proofs.LaysPu.n14 Tryz.prog Tryz.laysPu14_ren:={
 mixed:=ah
 f14:=Tryz.func170.trans (congrArg some ah)
 f16:=Tryz.func175.trans (congrArg some ah)
 f17:=Tryz.func142.trans (congrArg some ah)
 f19:=Tryz.func183.trans (congrArg some ah)
 f20:=Tryz.func184.trans (congrArg some ah)
 f21:=Tryz.func161.trans (congrArg some ah)
 f22:=Tryz.func162.trans (congrArg some ah)
 f23:=Tryz.func163.trans (congrArg some ah)
 f24:=Tryz.func164.trans (congrArg some ah)
 f25:=Tryz.func176.trans (congrArg some ah)
 f26:=Tryz.func177.trans (congrArg some ah)
 f27:=Tryz.func88.trans (congrArg some ah)
 f28:=Tryz.func118.trans (congrArg some ah)
 f29:=Tryz.func143.trans (congrArg some ah)
 f30:=Tryz.func165.trans (congrArg some ah)
 f31:=Tryz.func166.trans (congrArg some ah)
 f32:=Tryz.func167.trans (congrArg some ah)
 f33:=Tryz.func168.trans (congrArg some ah)
 f34:=Tryz.func178.trans (congrArg some ah)
 f35:=Tryz.func158.trans (congrArg some ah)
 f36:=Tryz.func179.trans (congrArg some ah)
 f37:=Tryz.func180.trans (congrArg some ah)
 f38:=Tryz.func181.trans (congrArg some ah)
 f39:=Tryz.func185.trans (congrArg some ah)
 f40:=Tryz.func186.trans (congrArg some ah)
 t0:=Tryz.underlying0
 a0:=Tryz.isAgg0
 z0:=Tryz.sizeOf0
 v0:=Tryz.zeroValue0
 i0:=ah
 t2:=Tryz.underlying2
 a2:=Tryz.isAgg2
 z2:=Tryz.sizeOf2
 v2:=Tryz.zeroValue2
 i2:=ah
 t3:=Tryz.underlying3
 a3:=Tryz.isAgg3
 z3:=Tryz.sizeOf3
 v3:=Tryz.zeroValue3
 i3:=ah
 t4:=Tryz.underlying4
 a4:=Tryz.isAgg4
 z4:=Tryz.sizeOf4
 v4:=Tryz.zeroValue4
 i4:=ah
 t5:=Tryz.underlying5
 a5:=Tryz.isAgg5
 z5:=Tryz.sizeOf5
 v5:=Tryz.zeroValue5
 i5:=ah
 t9:=Tryz.underlying9
 a9:=Tryz.isAgg9
 z9:=Tryz.sizeOf9
 v9:=Tryz.zeroValue9
 i9:=ah
 t20:=Tryz.underlying20
 a20:=Tryz.isAgg20
 z20:=Tryz.sizeOf20
 v20:=Tryz.zeroValue20
 i20:=ah
 t21:=Tryz.underlying21
 a21:=Tryz.isAgg21
 z21:=Tryz.sizeOf21
 v21:=Tryz.zeroValue21
 i21:=ah
 t22:=Tryz.underlying180
 a22:=Tryz.isAgg180
 z22:=Tryz.sizeOf180
 v22:=Tryz.zeroValue180
 i22:=ah
 t24:=Tryz.underlying182
 a24:=Tryz.isAgg182
 z24:=Tryz.sizeOf182
 v24:=Tryz.zeroValue182
 i24:=ah
 t25:=Tryz.underlying237
 a25:=Tryz.isAgg237
 z25:=Tryz.sizeOf237
 v25:=Tryz.zeroValue237
 i25:=ah
 t34:=Tryz.underlying226
 a34:=Tryz.isAgg226
 z34:=Tryz.sizeOf226
 v34:=Tryz.zeroValue226
 i34:=ah
 c34:=ah
 t36:=Tryz.underlying207
 a36:=Tryz.isAgg207
 z36:=Tryz.sizeOf207
 v36:=Tryz.zeroValue207
 i36:=ah
 t37:=Tryz.underlying218
 a37:=Tryz.isAgg218
 z37:=Tryz.sizeOf218
 v37:=Tryz.zeroValue218
 i37:=ah
 t39:=Tryz.underlying229
 a39:=Tryz.isAgg229
 z39:=Tryz.sizeOf229
 v39:=Tryz.zeroValue229
 i39:=ah
 t44:=Tryz.underlying244
 a44:=Tryz.isAgg244
 z44:=Tryz.sizeOf244
 v44:=Tryz.zeroValue244
 i44:=ah
 t47:=Tryz.underlying254
 a47:=Tryz.isAgg254
 z47:=Tryz.sizeOf254
 v47:=Tryz.zeroValue254
 i47:=ah
 t48:=Tryz.underlying255
 a48:=Tryz.isAgg255
 z48:=Tryz.sizeOf255
 v48:=Tryz.zeroValue255
 i48:=ah
 t50:=Tryz.underlying257
 a50:=Tryz.isAgg257
 z50:=Tryz.sizeOf257
 v50:=Tryz.zeroValue257
 i50:=ah
 t52:=Tryz.underlying232
 a52:=Tryz.isAgg232
 z52:=Tryz.sizeOf232
 v52:=Tryz.zeroValue232
 i52:=ah
 t55:=Tryz.underlying234
 a55:=Tryz.isAgg234
 z55:=Tryz.sizeOf234
 v55:=Tryz.zeroValue234
 i55:=ah
 t59:=Tryz.underlying248
 a59:=Tryz.isAgg248
 z59:=Tryz.sizeOf248
 v59:=Tryz.zeroValue248
 i59:=ah
 t60:=Tryz.underlying249
 a60:=Tryz.isAgg249
 z60:=Tryz.sizeOf249
 v60:=Tryz.zeroValue249
 i60:=ah
 t61:=Tryz.underlying250
 a61:=Tryz.isAgg250
 z61:=Tryz.sizeOf250
 t65:=Tryz.underlying258
 a65:=Tryz.isAgg258
 z65:=Tryz.sizeOf258
 v65:=Tryz.zeroValue258
 i65:=ah
 t66:=Tryz.underlying259
 a66:=Tryz.isAgg259
 z66:=Tryz.sizeOf259
 v66:=Tryz.zeroValue259
 i66:=ah
 t67:=Tryz.underlying260
 a67:=Tryz.isAgg260
 z67:=Tryz.sizeOf260
 v67:=Tryz.zeroValue260
 i67:=ah
 g0:=ah
 m0:=ah
 g1:=ah
 m1:=ah
 g2:=ah
 m2:=ah
 g3:=ah
 m3:=ah
 g4:=ah
 m4:=by kernel_rfl}
def Tryz.laysC174_ren:Go.Shelf.Ren:=⟨fun|174=>171|247=>160|245=>142|287=>175|279=>161|280=>162|281=>163|282=>164|321=>183|322=>184|316=>176|171=>88|205=>177|243=>118|246=>143|283=>165|284=>166|285=>167|286=>168|129=>158|317=>178|318=>179|319=>180|320=>181|337=>185|338=>186|n=>n,fun|9=>9|3=>3|2=>2|75=>182|85=>227|4=>4|167=>226|5=>5|53=>180|175=>237|46=>207|168=>229|37=>218|0=>0|210=>244|21=>21|127=>254|145=>257|143=>255|171=>232|173=>234|212=>248|51=>249|20=>20|213=>250|232=>258|233=>259|80=>260|n=>n,fun|15=>0|16=>1|17=>2|18=>3|19=>4|n=>n⟩
theorem Tryz.laysC174:Go.Proofs.LaysC.n174 Tryz.prog Tryz.laysC174_ren:={
 mixed:=ah
 f129:=Tryz.func158.trans (congrArg some ah)
 f171:=Tryz.func88.trans (congrArg some ah)
 f174:=Tryz.func171.trans (congrArg some ah)
 f205:=Tryz.func177.trans (congrArg some ah)
 f243:=Tryz.func118.trans (congrArg some ah)
 f245:=Tryz.func142.trans (congrArg some ah)
 f246:=Tryz.func143.trans (congrArg some ah)
 f247:=Tryz.func160.trans (congrArg some ah)
 f279:=Tryz.func161.trans (congrArg some ah)
 f280:=Tryz.func162.trans (congrArg some ah)
 f281:=Tryz.func163.trans (congrArg some ah)
 f282:=Tryz.func164.trans (congrArg some ah)
 f283:=Tryz.func165.trans (congrArg some ah)
 f284:=Tryz.func166.trans (congrArg some ah)
 f285:=Tryz.func167.trans (congrArg some ah)
 f286:=Tryz.func168.trans (congrArg some ah)
 f287:=Tryz.func175.trans (congrArg some ah)
 f316:=Tryz.func176.trans (congrArg some ah)
 f317:=Tryz.func178.trans (congrArg some ah)
 f318:=Tryz.func179.trans (congrArg some ah)
 f319:=Tryz.func180.trans (congrArg some ah)
 f320:=Tryz.func181.trans (congrArg some ah)
 f321:=Tryz.func183.trans (congrArg some ah)
 f322:=Tryz.func184.trans (congrArg some ah)
 f337:=Tryz.func185.trans (congrArg some ah)
 f338:=Tryz.func186.trans (congrArg some ah)
 t0:=Tryz.underlying0
 a0:=Tryz.isAgg0
 z0:=Tryz.sizeOf0
 v0:=Tryz.zeroValue0
 t2:=Tryz.underlying2
 a2:=Tryz.isAgg2
 z2:=Tryz.sizeOf2
 v2:=Tryz.zeroValue2
 t3:=Tryz.underlying3
 a3:=Tryz.isAgg3
 z3:=Tryz.sizeOf3
 v3:=Tryz.zeroValue3
 t4:=Tryz.underlying4
 a4:=Tryz.isAgg4
 z4:=Tryz.sizeOf4
 v4:=Tryz.zeroValue4
 t5:=Tryz.underlying5
 a5:=Tryz.isAgg5
 z5:=Tryz.sizeOf5
 v5:=Tryz.zeroValue5
 t9:=Tryz.underlying9
 a9:=Tryz.isAgg9
 z9:=Tryz.sizeOf9
 v9:=Tryz.zeroValue9
 t20:=Tryz.underlying20
 a20:=Tryz.isAgg20
 z20:=Tryz.sizeOf20
 v20:=Tryz.zeroValue20
 t21:=Tryz.underlying21
 a21:=Tryz.isAgg21
 z21:=Tryz.sizeOf21
 v21:=Tryz.zeroValue21
 t37:=Tryz.underlying218
 a37:=Tryz.isAgg218
 z37:=Tryz.sizeOf218
 v37:=Tryz.zeroValue218
 t46:=Tryz.underlying207
 a46:=Tryz.isAgg207
 z46:=Tryz.sizeOf207
 v46:=Tryz.zeroValue207
 t51:=Tryz.underlying249
 a51:=Tryz.isAgg249
 z51:=Tryz.sizeOf249
 v51:=Tryz.zeroValue249
 t53:=Tryz.underlying180
 a53:=Tryz.isAgg180
 z53:=Tryz.sizeOf180
 v53:=Tryz.zeroValue180
 t75:=Tryz.underlying182
 a75:=Tryz.isAgg182
 z75:=Tryz.sizeOf182
 v75:=Tryz.zeroValue182
 t85:=Tryz.underlying227
 a85:=Tryz.isAgg227
 z85:=Tryz.sizeOf227
 v85:=Tryz.zeroValue227
 t127:=Tryz.underlying254
 a127:=Tryz.isAgg254
 z127:=Tryz.sizeOf254
 v127:=Tryz.zeroValue254
 t143:=Tryz.underlying255
 a143:=Tryz.isAgg255
 z143:=Tryz.sizeOf255
 v143:=Tryz.zeroValue255
 t145:=Tryz.underlying257
 a145:=Tryz.isAgg257
 z145:=Tryz.sizeOf257
 v145:=Tryz.zeroValue257
 t167:=Tryz.underlying226
 a167:=Tryz.isAgg226
 z167:=Tryz.sizeOf226
 v167:=Tryz.zeroValue226
 t168:=Tryz.underlying229
 a168:=Tryz.isAgg229
 z168:=Tryz.sizeOf229
 v168:=Tryz.zeroValue229
 t171:=Tryz.underlying232
 a171:=Tryz.isAgg232
 z171:=Tryz.sizeOf232
 v171:=Tryz.zeroValue232
 t173:=Tryz.underlying234
 a173:=Tryz.isAgg234
 z173:=Tryz.sizeOf234
 v173:=Tryz.zeroValue234
 t175:=Tryz.underlying237
 a175:=Tryz.isAgg237
 z175:=Tryz.sizeOf237
 v175:=Tryz.zeroValue237
 t210:=Tryz.underlying244
 a210:=Tryz.isAgg244
 z210:=Tryz.sizeOf244
 v210:=Tryz.zeroValue244
 t212:=Tryz.underlying248
 a212:=Tryz.isAgg248
 z212:=Tryz.sizeOf248
 v212:=Tryz.zeroValue248
 t213:=Tryz.underlying250
 a213:=Tryz.isAgg250
 z213:=Tryz.sizeOf250
 t232:=Tryz.underlying258
 a232:=Tryz.isAgg258
 z232:=Tryz.sizeOf258
 v232:=Tryz.zeroValue258
 t233:=Tryz.underlying259
 a233:=Tryz.isAgg259
 z233:=Tryz.sizeOf259
 v233:=Tryz.zeroValue259
 g15:=ah
 g16:=ah
 g17:=ah
 g18:=ah
 g19:=ah
 t80:=Tryz.underlying260
 a80:=Tryz.isAgg260
 z80:=Tryz.sizeOf260
 v80:=Tryz.zeroValue260
 i0:=ah
 i2:=ah
 i3:=ah
 i4:=ah
 i5:=ah
 i9:=ah
 i20:=ah
 i21:=ah
 i37:=ah
 i46:=ah
 i51:=ah
 i53:=ah
 i75:=ah
 i80:=ah
 i85:=ah
 i127:=ah
 i143:=ah
 i145:=ah
 i167:=ah
 i168:=ah
 i171:=ah
 i173:=ah
 i175:=ah
 i210:=ah
 i212:=ah
 i232:=ah
 i233:=ah
 m15:=ah
 m16:=ah
 m17:=ah
 m18:=ah
 m19:=ah
 c0:=ah
 c2:=ah
 c3:=ah
 c4:=ah
 c5:=ah
 c9:=ah
 c20:=ah
 c21:=ah
 c37:=ah
 c46:=ah
 c51:=ah
 c53:=ah
 c75:=ah
 c80:=ah
 c85:=ah
 c127:=ah
 c143:=ah
 c145:=ah
 c167:=ah
 c168:=ah
 c171:=ah
 c173:=ah
 c175:=ah
 c210:=ah
 c212:=ah
 c213:=ah
 c232:=ah
 c233:=by kernel_rfl}
end Go.Proofs
namespace Go.Vm
open Go Go.Am
variable{l:LuQ}
theorem Qw:∀(l:LuQ)(a:Nat),a<=pW a l
 |[],a=>Z7 _
 | c::l,a=>by
  have h:a*10+(c.toNat-48)<=pW (a*10+(c.toNat-48)) l:=Qw l _;have e:pW a (c::l)=pW (a*10+(c.toNat-48)) l:=rfl;generalize pW a (c::l)=y at *;generalize pW (a*10+(c.toNat-48)) l=z at *;generalize c.toNat-48=d at *;omega
theorem rN:∀(l:LuQ)(a:Nat),l.all oN=true->pW a l<10000000000000000000->Lib.parseUintM (2^64-1) a l=.ok (pW a l)
 |[],a,_,_=>rfl
 | c::l,a,h,hd=>by
  simp only[List.all_cons,Z8,oN,Nat.ble_eq]at h;have e:pW a (c::l)=pW (a*10+(c.toNat-48)) l:=rfl;rw[e]at hd ⊢;have hge:=Qw l (a*10+(c.toNat-48));rw[Lib.parseUintM,if_pos h.1,if_neg aa,if_neg aa];exact rN l _ h.2 hd
theorem frz(w:World)(e:TypeId)(s:ByteArray):w.heap.size<=(Lib.bytesWorld w e s).heap.size∧(∀c,c<w.heap.size->(Lib.bytesWorld w e s).heap[c]?=w.heap[c]?)∧(Lib.bytesWorld w e s).os=w.os∧(Lib.bytesWorld w e s).output=w.output:=
 ⟨by rw[Lib.bytesWorld_size];omega,fun c hc=>Lib.bytesWorld_at_old w e s c hc,rfl,rfl⟩
theorem WP{c:UInt8}(h:oN c=true):¬c.toNat=43∧¬c.toNat=45:=by simp only[oN,Z8,Nat.ble_eq]at h;omega
theorem Ry(hne:l≠[])(hall:l.all oN=true)(hlt:pW 0 l<9223372036854775808):Lib.parseIntB 64 l=.ok (pW 0 l:Int):=by
 cases l with
 |nil=>exact absurd rfl hne
 | cons c r=>
  have hc:=WP (Zv.1 hall c af)
  have hp:Lib.parseUintB 64 (c::r)=.ok (pW 0 (c::r)):=by
   rw[Lib.parseUintB,if_neg hne];exact rN _ _ hall aa
  unfold Lib.parseIntB;simp only[hc.1,hc.2,or_self,if_false,hp];rw[if_neg bK,if_neg af]
theorem Rx(hne:l≠[])(hall:l.all oN=true)(hlt:pW 0 l<9223372036854775808):Lib.parseIntB 64 (45::l)=.ok (-(pW 0 l:Int)):=by
 have hp:Lib.parseUintB 64 l=.ok (pW 0 l):=by
  rw[Lib.parseUintB,if_neg hne];exact rN _ _ hall aa
 have h45:(45:UInt8).toNat=45:=rfl;unfold Lib.parseIntB;simp only[h45,or_true,if_true,hp];rw[if_neg af,if_neg bK]
theorem afG:adb X:=by
 intro f args v h;simp only[X]at h;split at h
 .rename_i hf;obtain rfl:=Zl hf;unfold Lh at h;split at h
  .rename_i s a b;split at h
   .rename_i hc;obtain⟨rfl,rfl,hne,hall,hsz,hlt⟩:=hc;obtain rfl:=Option.some.inj h;refine⟨rfl,rfl,.inr ⟨⟨_,Go.Proofs.Tryz.func170,ah,ah⟩,fun w=>?_⟩⟩
    have hp:Lib.parseUintB 64 s.data.toList=.ok (pW 0 s.data.toList):=by
     rw[Lib.parseUintB,if_neg hne];exact rN _ _ hall hlt
    have hsz2:s.size=s.data.toList.length:=by rw[Array.length_toList];rfl
    have hmax:s.size≤9223372036854775806:=aa;refine(Go.Proofs.Any.strconv_ParseUint_10_at64_ok Go.Proofs.Tryz.laysPu14 s hmax _ hp w).mono ?_;rintro e w' ⟨rfl,rfl|rfl⟩
    .exact⟨rfl,Z7 _,fun _ _=>rfl,rfl,rfl⟩
    .exact⟨rfl,frz w _ s⟩
   .cases h
  .cases h
 .split at h
  .rename_i hf;obtain rfl:=Zl hf
   have key:∀(s:ByteArray)(z:Int),s.data.toList.length≤1001→Lib.parseIntB 64 s.data.toList=.ok z→v=.tuple #[.int .i64 z,.nilIface]→args=[.string s,.int .i64 10,.int .i64 64] →
     kW args=true∧plain v=true∧(JA X F.gM args v∨(∃fn,Go.Proofs.Tryz.prog.funcs[F.gM]?=some fn∧fn.body.isNone=false∧(fn.name == "runtime.NumGoroutine")=false) ∧
     ∀w,Calls Go.Proofs.Tryz.prog F.gM args.toArray w fun e w'=>e=.returned v∧w.heap.size≤w'.heap.size∧(∀c,c<w.heap.size→w'.heap[c]?=w.heap[c]?)∧w'.os=w.os∧w'.output=w.output):=by
    intro s z hl hp hv ha;subst hv;subst ha;refine⟨rfl,rfl,.inr ⟨⟨_,Go.Proofs.Tryz.func171,ah,ah⟩,fun w=>?_⟩⟩;have hsz2:s.size=s.data.toList.length:=by rw[Array.length_toList];rfl
    refine(Go.Proofs.Any.strconv_ParseInt_10_at64_ok Go.Proofs.Tryz.laysC174 s aa z hp w).mono ?_;rintro e w' ⟨rfl,rfl|⟨t,rfl⟩⟩
    .exact⟨rfl,Z7 _,fun _ _=>rfl,rfl,rfl⟩
    .exact⟨rfl,frz w _ t⟩
   unfold PS at h;split at h
   .rename_i s a b;split at h
    .rename_i hab;obtain⟨rfl,rfl⟩:=hab;split at h
     .rename_i l hs;split at h
      .rename_i hc;obtain⟨hne,hall,hsz,hlt⟩:=hc;obtain rfl:=Option.some.inj h;exact key s _ (by rw[hs];simp;omega) (by rw[hs];exact Rx hne hall hlt) rfl rfl
      .cases h
     .rename_i l hs;split at h
      .rename_i hc;obtain⟨hne,hall,hsz,hlt⟩:=hc;obtain rfl:=Option.some.inj h;exact key s _ aa (Ry hne hall hlt) rfl rfl
      .cases h
    .cases h
   .cases h
  .cases h
end Go.Vm
