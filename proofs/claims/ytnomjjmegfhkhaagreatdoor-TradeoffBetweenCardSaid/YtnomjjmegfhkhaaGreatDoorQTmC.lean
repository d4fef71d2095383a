/- Lemmas. -/
import Derived.Test.YtnomjjmegfhkhaaGreatDoorQRefRow
set_option linter.unusedVariables false
set_option linter.unusedSimpArgs false
namespace Go.Vm
open Go Go.Am Go.Big
variable{ts:List (Int×Int)}{d n k E G i o Bd f o' j E' M:Nat}{most z c' div:Int}{s t:List Q}{L:Nat->Nat}{r P x y:LiQ}{m m' l:Mz}
theorem BK:∀(r low high out a:Nat),uT r low high out=some a->a<(out+1)*2^r
 |0,low,high,out,a,h=>by simp only[uT,Z9]at h;subst h;simp
 | r+1,low,high,out,a,h=>by
  have e:∀x:Nat,(x+1)*2^(r+1)=(2*x+2)*2^r:=λx=>by rw[Nat.pow_succ,Zo (2^r) 2,<-Nat.mul_assoc];congr 1;omega
  rw[e];simp only[uT]at h;cases c1:Nat.ble E63 (low*low/E62)with
  | true=>
   rw[c1]at h;have:=BK r _ _ _ a h
   rwa [show out*2+1+1=2*out+2 by omega]at this
  | false=>
   rw[c1]at h;cases c2:Nat.ble E63 (high*high/E62+1)with
   |true=>rw[c2]at h;cases h
   | false=>
    rw[c2]at h;have:=BK r _ _ _ a h;exact Z2 this (Zv _ aa)
theorem YH{p a:Nat}(hp:2<=p)(hp2:p<1000000)(h:Ck p=some a):a<1342177280:=by
 obtain⟨hk0,hpk,hk1⟩:=rz (n:=p) aa
 have hk20:bL p<=20:=by
  have:2^(bL p-1)<2^20:=aa;have:=(Yq (by decide:1<2)).1 this;omega
 have:=BK _ _ _ _ _ h;have h2:(bL p-1+1)*2^26<=20*2^26:=Zv _ aa;omega
theorem ael(x y:Int):mx2 false x y=min x y:=by unfold mx2;simp;omega
theorem aem(x y:Int):mx2 true x y=max x y:=by unfold mx2;simp;omega
def tf(most:Int):List (Int×Int)->Int×Int->Option (Int×Int)
 |[],a=>some a
 | t::ts,a=>if most<t.2∨t.2 < -most then none else match Ck t.1.toNat with
  |none=>none
  | some f=>
   let b:Int:=if t.1=2 then f else f+1
   tf most ts (a.1+min (t.2*f) (t.2*b),a.2+max (t.2*f) (t.2*b))
def neV:Option (Int×Int)->V
 |some a=>.tup [I a.1,I a.2,B true]
 |none=>.tup [I 0,I 0,B false]
def qX(ts:List (Int×Int))(d:Nat)(n lo hi:Int)(b:Bool):Hp:=[(1,.vars ((tmD ts d).map .d)),(1,.vars [I n]),(1,.vars [I lo]),(1,.vars [I hi]),(1,.vars [B b])]
theorem D7{d:Nat}{most:Int}(hm0:0<=most)(hm:most<=10000000){tt:List (Int×Int)}(k:Exit->Hp->Prop)(h0:Hp)(hh:h0.length=5):∀(ts:List (Int×Int))(lo hi B:Int),(∀t∈ts,2<=t.1∧t.1<1000000∧t.2.natAbs<9223372036854775808)->B+ts.length*13421772810000000<=9000000000000000000->-B<=lo->lo<=B->-B<=hi->hi<=B ->
  (∀a,tf most ts (lo,hi)=some a->k .normal (qX tt d most a.1 a.2 false))->(tf most ts (lo,hi)=none->k .ret (qX tt d most 0 0 false)) ->
  rg 2 (dR (CX Y) (.ptr 1 1 0 1) (.ptr 2 1 0 1) (.ptr 3 1 0 1) (.ptr 4 1 0 1)) [] h0 k (tmX ts) (qX tt d most lo hi false)
 | [],lo,hi,Bd,hl,hb,h1,h2,h3,h4,hk,hn=>by
  simpa[tmX,rg]using hk (lo,hi) rfl
 | t::ts,lo,hi,Bd,hl,hb,h1,h2,h3,h4,hk,hn=>by
  obtain⟨l1,l2,l3⟩:=hl t ac;have sm:=AT (z:=t.2) l3;obtain⟨p,hp⟩:∃p:Nat,t.1=p:=⟨t.1.toNat,aa⟩;have hpn:t.1.toNat=p:=aa;have fa:=fast_ok (p:=p) aa aa;rw[<-hp]at fa;have eL:([.int .i64 t.1,.string ⟨⟨itoa t.2⟩⟩]:LvQ).map (λv=>V.d (js v))=[I t.1,S (itoa t.2)]:=rfl;simp only[tf,hpn]at hk hn
  have hlen:∀x:Hp,x.length=5->aH [] 0 h0 x=x:=λx hx=>p9 0 h0 x aa
  simp only[tmX,Zs];refine PN rfl ?_;rw[eL];by_cases c1:most<t.2
  .rw[if_pos (.inl c1)]at hn;simp[dR,qX,tmD];refine cd sm ?_ (by simp[aO,cF]);simp[c1];simpa[qX,tmD]using hn rfl
  .by_cases c2:t.2 < -most
   .rw[if_pos (.inr c2)]at hn;simp[dR,qX,tmD];refine cd sm ?_ (by simp[aO,cF]);simp(disch:=try exact af)[c1,c2];simpa[qX,tmD]using hn rfl
   .rw[if_neg aa]at hn;simp only[show ¬(most<t.2∨t.2 < -most) by omega,if_false]at hk;cases hf:Ck p with
    | none=>
     rw[hf]at fa hn;simp[dR,qX,tmD];refine cd sm ?_ (by simp[aO,cF]);simp(disch:=try exact af)[c1,c2];refine cd fa ?_;simp[YI];simpa[qX,tmD]using hn rfl
    | some f=>
     have hflt:=YH aa aa hf;rw[hf]at fa hk hn;simp only at hk hn;obtain⟨b,hb'⟩:∃b:Int,b=(if t.1=2 then(f:Int)else f+1):=⟨_,rfl⟩;rw[<-hb']at hk hn;have hbb:(f:Int)<=b∧b<=f+1:=by subst hb';split<;>omega
     obtain⟨x,hx⟩:∃x:Int,x=t.2*f:=⟨_,rfl⟩;obtain⟨y,hy⟩:∃y:Int,y=t.2*b:=⟨_,rfl⟩
     have bd:∀z:Int,0<=z->z<=1342177281->-13421772810000000<=t.2*z∧t.2*z<=13421772810000000:=by
      intro z hz0 hz;have a1:t.2*z<=10000000*z:=X8 aa hz0;have a2:(-10000000)*z<=t.2*z:=X8 aa hz0;omega
     have bx:=bd f aa aa;have by_:=bd b aa aa;rw[<-hx]at bx hk hn;rw[<-hy]at by_ hk hn;have ih:=D7 (tt:=tt) (d:=d) hm0 hm k h0 hh ts (lo+min x y) (hi+max x y) (Bd+13421772810000000) (λt ht=>hl t (by simp[ht])) (by simp at hb;omega) aa aa aa aa hk hn;simp at hb
     have m1:biI .mul (I t.2) (I (f:Int))=some (I x):=by rw[Aw,<-hx,wrap_i64 ⟨aa,aa⟩]
     have m2:biI .mul (I t.2) (I b)=some (I y):=by rw[Aw,<-hy,wrap_i64 ⟨aa,aa⟩]
     have tail:∀q:Exit->Hp->Prop,q .normal (qX tt d most (lo+min x y) (hi+max x y) false)->jn (λl26 h=>
       bnd (ld1 h (.ptr 2 1 0 1)) λv28=>
       bnd (biI .mul (I t.2) (I (f:Int))) λv29=>
       bnd (biI .mul (I t.2) (ge l26 0)) λv30=>
       bnd (mxI false [v29,v30]) λv31=>
       bnd (biI .add v28 v31) λv32=>
       bnd (ld1 h (.ptr 3 1 0 1)) λv33=>
       bnd (biI .mul (I t.2) (I (f:Int))) λv34=>
       bnd (biI .mul (I t.2) (ge l26 0)) λv35=>
       bnd (mxI true [v34,v35]) λv36=>
       bnd (biI .add v33 v36) λv37=>
       sp h (.ptr 2 1 0 1) [.ptr 3 1 0 1]<|stD h 1 (.ptr 2 1 0 1) v32 λ_ h=>
       stD h 1 (.ptr 3 1 0 1) v37 λ_ h=>
       q .normal h) λq27=>q27 [I b] (qX tt d most lo hi false):=by
      intro q hq;rw[Mn (l:=[I b]) (h:=qX tt d most lo hi false) (λq=>rfl)];have x1:mxI false [I x,I y]=some (I (min x y)):=by simp only[mxI,ael]
      have x2:mxI true [I x,I y]=some (I (max x y)):=by simp only[mxI,aem]
      have a1:biI .add (I lo) (I (min x y))=some (I (lo+min x y)):=by rw[Ax,wrap_i64 ⟨aa,aa⟩]
      have a2:biI .add (I hi) (I (max x y))=some (I (hi+max x y)):=by rw[Ax,wrap_i64 ⟨aa,aa⟩]
      generalize lo+min x y=lo2 at *;generalize hi+max x y=hi2 at *;simp[qX,tmD,m1,m2,x1,x2,a1,a2];refine K0 (by rfl) ?_;simpa[qX,tmD]using hq
     have hne1:biI .add (I (f:Int)) (.d (.int .i64 1))=some (I ((f:Int)+1)):=by rw[Ax,wrap_i64 ⟨aa,aa⟩]
     have fin:qc [] 0 (qX tt d most (lo+min x y) (hi+max x y) false)=true∧rg 2 (dR (CX Y) (.ptr 1 1 0 1) (.ptr 2 1 0 1) (.ptr 3 1 0 1) (.ptr 4 1 0 1)) [] h0 k (tmX ts) (aH [] 0 h0 (qX tt d most (lo+min x y) (hi+max x y) false)):=by
      rw[hlen _ (by rfl)];exact⟨by simp[qX,tmD,HQ,HP,gZ,HS,je,qb],ih⟩
     simp[dR,qX,tmD];refine cd sm ?_ (by simp[aO,cF]);simp(disch:=try exact af)[c1,c2];refine cd fa ?_
     have tl:=tail (λex h'=>match ex with
      |.normal=>qc [] 0 h'=true∧rg 2 (dR (CX Y) (.ptr 1 1 0 1) (.ptr 2 1 0 1) (.ptr 3 1 0 1) (.ptr 4 1 0 1)) [] h0 k (tmX ts) (aH [] 0 h0 h')
      |ex=>k ex h') fin
     rw[Mn (l:=[I b]) (h:=qX tt d most lo hi false) (λq=>rfl)]at tl;simp[YI,hne1];refine gQ (l:=[I b]) (h:=qX tt d most lo hi false) (λq=>?_) ?_
     .by_cases h2':t.1=2
      .rw[if_pos h2']at hb';rw[decide_eq_true h2',hb'];rfl
      .rw[if_neg h2']at hb';rw[decide_eq_false h2',hb'];rfl
     .exact tl
theorem TZ(hm0:0<=most)(hm:most<=10000000)(hl:∀t∈ts,2<=t.1∧t.1<1000000∧t.2.natAbs<9223372036854775808)(hb:ts.length<=600):CP Y F.gr [tmV ts d,I most] (neV (tf most ts (0,0))):=by
 refine zf ?_;have al:=aaz ts d;have al':CP Y F.fO [.agg [.d (.sl ts.length (ts.map tmP)),.d (.sl ts.length (ts.map tmK)),S (ah d)]] (.fn F.cU [] [.dptr (tmD ts d) 0]):=al
 have nl:=D7 (d:=d) (most:=most) hm0 hm (tt:=ts) (λex h=>exK [(.ret,λ_ h=>
  bnd (ld1 h (.ptr 2 1 0 1)) λv8=>
  bnd (ld1 h (.ptr 3 1 0 1)) λv9=>
  bnd (ld1 h (.ptr 4 1 0 1)) λv10=>
  out (neV (tf most ts (0,0))) (.tup [v8,v9,v10]) h),
  (.normal,λ_ h=>
   bnd (ld1 h (.ptr 2 1 0 1)) λv11=>
   bnd (ld1 h (.ptr 3 1 0 1)) λv12=>
   sp h (.ptr 2 1 0 1) [.ptr 3 1 0 1]<|stD h 1 (.ptr 2 1 0 1) v11 λ_ h=>
   stD h 1 (.ptr 3 1 0 1) v12 λ_ h=>
   stD h 1 (.ptr 4 1 0 1) (.d (.bool true)) λ_ h=>
   bnd (ld1 h (.ptr 2 1 0 1)) λv16=>
   bnd (ld1 h (.ptr 3 1 0 1)) λv17=>
   bnd (ld1 h (.ptr 4 1 0 1)) λv18=>
   out (neV (tf most ts (0,0))) (.tup [v16,v17,v18]) h)] ex [] h) (qX ts d most 0 0 false) rfl ts 0 0 0 hl aa aa aa aa aa (λa ha=>by
   rw[ha];simp[qX,tmD];refine K0 (by rfl) ?_;exact jz rfl rfl rfl) (λha=>by
   rw[ha];simp[qX,tmD];exact jz rfl rfl rfl)
 simp[gr,tmV];refine cd al' ?_ (by simp[aO,cF]);simp;refine ro (ac1 aa d) ?_;simp only[qX,tmD,Zs,Ya]at nl;exact nl
def okT(ts:List (Int×Int)):Prop:=ts.length<=600∧∀t∈ts,2<=t.1∧t.1<1000000∧t.2.natAbs<9223372036854775808
theorem abp(h:okT ts):∀t∈ts,ndg t.2.natAbs<=100000:=λt ht=>
 Z4 (dG (d:=19) (by have:=(h.2 t ht).2.2;omega) ae) ae
def nf(ts:List (Int×Int)):Int:=match tf 10000000 ts (0,0)with
 |none=>0
 |some a=>if 0<=a.1 then 1 else if a.2<=0 then -1 else 0
theorem LC(h:okT ts):CP Y F.fu [tmV ts d] (I (nf ts)):=by
 refine yh ?_;have ne:=TZ (d:=d) (most:=10000000) ae ae h.2 h.1;have ne':CP Y F.gr [.agg [.d (.sl ts.length (ts.map tmP)),.d (.sl ts.length (ts.map tmK)),S (ah d)],I 10000000] (neV (tf 10000000 ts (0,0))):=ne;simp[fu,tmV];refine cd ne' ?_ (by rfl);unfold nf;cases tf 10000000 ts (0,0)with
 | none=>
  simp[neV]
 | some a=>
  simp only;by_cases c1:0<=a.1
  .rw[if_pos c1];simp[neV,c1]
  .rw[if_neg c1];by_cases c2:a.2<=0
   .rw[if_pos c2];simp[neV,c1,c2]
   .rw[if_neg c2];simp[neV,c1,c2]
def Qt(ts:List (Int×Int)):Prop:=∀i,i<6->aer (64*2^i) ts
def Li(ts:List (Int×Int)):Nat->Nat->Option Int
 |0,_=>none
 |r+1,n=>if 0<=(ic n ts (0,0)).1 then some 1 else if(ic n ts (0,0)).2<=0 then some (-1)else Li ts r (n*2)
def Hy(ts:List (Int×Int)):Option Int:=match ts with
 |[]=>some 0
 |_=>if nf ts≠0 then some (nf ts)else Li ts 6 64
theorem NS(z:Int):0<=sgn z↔0<=z:=by unfold sgn;split<;>(try split)<;>omega
theorem NR(z:Int):sgn z<=0↔z<=0:=by unfold sgn;split<;>(try split)<;>omega
theorem D5{ts:List (Int×Int)}{d:Nat}(h:okT ts)(hl:Qt ts)(k:KL)(h0:Hp)(hh:h0.length=1):∀(r i:Nat)(s:Int),i+r=6->Li ts r (64*2^i)=some s->(∀h,k .ret [I s] h) ->
  lp (oI (CX Y) (.ptr 0 1 0 3)) [] h0 [I ((64*2^i:Nat):Int)] [(1,.vars ((tmD ts d).map .d))] k
 |0,i,s,hi,hs,hk=>by trivial
 | r+1,i,s,hi,hs,hk=>by
  have hn:64*2^i<=3900:=by
   have:2^i<=2^5:=Z3 ae aa;omega
  have en:=ab9 (n:=64*2^i) (d:=d) hn (hl i aa) (abp h) (by have:=h.1;omega);have en':CP Y F.iF [.agg [.d (.sl ts.length (ts.map tmP)),.d (.sl ts.length (ts.map tmK)),S (ah d)],I ((64*2^i:Nat):Int)] (.tup [S (itoa (ic (64*2^i) ts (0,0)).1),S (itoa (ic (64*2^i) ts (0,0)).2)]):=en
  have hd:64*2^i*2=64*2^(i+1):=by rw[Nat.pow_succ,<-Nat.mul_assoc]
  simp only[Li,hd]at hs;generalize ic (64*2^i) ts (0,0)=e at *;have ih:=D5 (d:=d) h hl k h0 hh r (i+1) s aa;have hm:((64*2^i:Nat):Int)*2=((64*2^(i+1):Nat):Int):=by rw[<-hd];omega
  generalize 64*2^(i+1)=m2 at *;generalize 64*2^i=m at *;have s1:=m7 e.1;have s2:=m7 e.2;have n1:=NS e.1;have n2:=NR e.2;refine ai ?_;simp[oI,tmD];refine cd en' ?_ (by rfl);simp;refine cd s1 ?_ (by rfl);by_cases c1:0<=e.1
  .rw[if_pos c1]at hs;simp only[Z9]at hs;subst hs;have c1':0<=sgn e.1:=n1.2 c1;simp[c1']
   grind
  .rw[if_neg c1]at hs;have c1':¬0<=sgn e.1:=λx=>c1 (n1.1 x)
   simp[c1'];refine cd s2 ?_ (by rfl);by_cases c2:e.2<=0
   .rw[if_pos c2]at hs;simp only[Z9]at hs;subst hs;have c2':sgn e.2<=0:=n2.2 c2;simp[c2']
    grind
   .rw[if_neg c2]at hs;have c2':¬sgn e.2<=0:=λx=>c2 (n2.1 x)
    have ih:=ih hs hk;simp(disch:=try exact af)[c2',hm];exact ih
theorem Uy(h:okT ts)(hl:Qt ts)(hs:Hy ts=some z):CP Y F.cM [tmV ts d] (I z):=by
 refine sL ?_;have qo:=LC (d:=d) h;have qo':CP Y F.fu [.agg [.d (.sl ts.length (ts.map tmP)),.d (.sl ts.length (ts.map tmK)),S (ah d)]] (I (nf ts)):=qo;cases hts:ts with
 | nil=>
  subst hts;simp only[Hy,Z9]at hs;subst hs;simp[cM,tmV,aN]
 | cons t r=>
  have hne:¬ts=[]:=by rw[hts];simp
  have hs':(if nf ts≠0 then some (nf ts)else Li ts 6 64)=some z:=by rw[hts]at hs ⊢;exact hs
  rw[<-hts];have ll:aN (.d (.sl ts.length (ts.map tmP)))=some (I ts.length):=rfl;by_cases hq:nf ts=0
  .rw[if_neg aa]at hs'
   have sl:=D5 (d:=d) h hl (exK [(.ret,λl9 h=>out (I z) (ge l9 0) h)]) [(1,.vars ((tmD ts d).map .d))] rfl 6 0 z rfl hs' (λh=>by
    simp)
   simp only[tmD,Zs,Ya]at sl;rw[hq]at qo';simp[cM,tmV,ll,hne];refine cd qo' ?_ (by rfl);simp;exact sl
  .rw[if_pos aa]at hs';simp only[Z9]at hs';subst hs';simp[cM,tmV,ll,hne];refine cd qo' ?_ (by rfl);simp[hq]
theorem Uz(h:okT ts)(hq:ts≠[]->nf ts≠0):CP Y F.cM [tmV ts d] (I (if ts=[]then 0 else nf ts)):=by
 refine sL ?_;have qo:CP Y F.fu [.agg [.d (.sl ts.length (ts.map tmP)),.d (.sl ts.length (ts.map tmK)),S (ah d)]] (I (nf ts)):=LC (d:=d) h;by_cases hne:ts=[]
 .subst hne;simp[cM,tmV,aN]
 .have ll:aN (.d (.sl ts.length (ts.map tmP)))=some (I ts.length):=rfl;have hq:=hq hne;rw[if_neg hne];simp[cM,tmV,ll,hne];refine cd qo ?_ (by rfl);simp[hq]
def tq(p:LiQ)(s:List Q):List (Int×Int):=jQ (wZ 1 s) p s
def afW(p:LiQ)(s:List Q)(z:Int):Prop:=okT (tq p s)∧Qt (tq p s)∧Hy (tq p s)=some z
def GA(p:LiQ)(s:List Q)(z:Int):Prop:=∀d,CP Y F.cM [tmV (tq p s) d] (I z)
theorem aa3{p:LiQ}(h:afW p s z):GA p s z:=λ_=>Uy h.1 h.2.1 h.2.2
theorem Tt{p:LiQ}(hp:pcB p=0)(hN:p.length<1000000)(hl:s.length=p.length)(hs:okS s):CP Y F.oJ [lst di p,szV s] (I 0):=by
 have:=Ux (p:=p) (s:=s.map tx) aa (λx hx=>by
  obtain⟨y,hy,rfl⟩:=Zw.1 hx;obtain⟨l1,l2⟩:=IL (hs y hy).2;omega) (by grind)
 unfold siB scB at this;rw[if_pos hp,List.length_map,if_pos hl,IQ hs]at this;exact this
def dfS(p:LiQ)(a b:List Q):List Q:=vm p.length [a,b] [(1,1),(-1,1)]
theorem Qc:okK 1 [(1,1),(-1,1)]:=λx hx=>by
 simp at hx;rcases hx with rfl|rfl
 .exact⟨⟨ae,ae⟩,dG ae ae,dG ae ae⟩
 .exact⟨⟨ae,ae⟩,dG ae ae,dG ae ae⟩
theorem MX{p:LiQ}{a b:List Q}(hN:p.length<1000)(ha:a.length=p.length)(hb:b.length=p.length)(oa:okS a)(ob:okS b)(hz:GA p (dfS p a b) z):CP Y F.nE [lst di p,szV a,szV b] (I z):=by
 refine En ?_
 have hab:∀s ∈ [a,b],s.length=p.length∧okK 30 s:=λs hs=>by
  simp at hs;rcases hs with rfl|rfl
  .trivial
  trivial
 have su:=Ue (n:=p.length) (l:=[a,b]) (fs:=[(1,1),(-1,1)]) (Ks:=30) (Kk:=1) aa ac rfl ae ac hab Qc;have oK:okK 65 (dfS p a b):=Ps (Ks:=30) (Kk:=1) (Ko:=1) (Kr _) (λs hs=>(hab s hs).2) Qc
 have hl:(dfS p a b).length=p.length:=by
  unfold dfS vm;rw[zc (λs hs=>by grind)];simp
 have to_:=NH (p:=p) (s:=dfS p a b) (K:=65) aa hl.symm oK aa ae;have si:=hz (wZ 1 (dfS p a b));have l1:∀H,fJ 2 [nPQ] [(0,szV a),(1,szV b)] H=some ([szD a,szD b],H):=λH=>WM ..
 have l2:∀H,fJ 2 [D.str [],D.str []] [(0,.agg (qT (1,1))),(1,.agg (qT (-1,1)))] H=some (bJ (tx (1,1))++bJ (tx (-1,1)),H):=λH=>agk (1,1) (-1,1) H
 have l3:aN (lst di p)=some (I p.length):=rfl;simp[nE,l1,l3];refine cd (uE (z:=1) aa aa) ?_;simp;refine cd (uE (z:=-1) aa aa) ?_;simp[l2];refine cd (v:=szV (dfS p a b)) su ?_ (by rfl);simp;refine cd to_ ?_ (by rfl);simp;refine cd si ?_ (by rfl);simp
theorem xe{p:LiQ}{a b:List Q}(hp:pcB p=0)(hN:p.length<1000)(ha:a.length=p.length)(hb:b.length=p.length)(oa:okS a)(ob:okS b)(hz:GA p (dfS p a b) z):CP Y F.gS [lst di p,szV a,szV b] (.tup [I z,I 0]):=by
 refine wn ?_
 have ca:=w8 (p:=p) (l:=[a,b]) aa ac (λs hs=>by
  simp at hs;rcases hs with rfl|rfl
  .exact⟨oa,aa⟩
  .exact⟨ob,aa⟩)
 rw [if_pos hp,J8 (n:=p.length) (l:=[a,b]) λs hs=>by
  grind]at ca
 have co:=MX hN ha hb oa ob hz;have l1:∀H,fJ 2 [nPQ] [(0,szV a),(1,szV b)] H=some ([szD a,szD b],H):=λH=>WM ..
 simp[gS,l1];refine cd (v:=I 0) ca ?_ (by rfl);simp;refine cd co ?_ (by rfl);simp[bU]
def af8(ts:List (Int×Int)):Prop:=ts.length<=8∧∀t∈ts,2<=t.1∧t.1<128∧t.2.natAbs<9223372036854775808
theorem uG{n d:Int}(h:d≠0):okQ (fM n d):=by unfold fM;split<;>exact Dn _ aa
theorem Bq{n d:Int}{K:Nat}(h1:ndg n.natAbs<=K)(h2:ndg d.natAbs<=K):qL K (fM n d):=by
 unfold fM;split
 .exact Jw (by rwa [Xh]) h2
 .exact Jw h1 h2
theorem Vq{a b:Q}{K L:Nat}(ha:qL K a)(hb:qL L b):qL (K+L) (rr a b):=by
 refine Bq ?_ ?_
 .have:=fB (z:=a.1) (w:=(b.2:Int));rw[Int.natAbs_natCast]at this;have:=ha.1;have:=hb.2;omega
 .have:=fB (z:=(a.2:Int)) (w:=b.1);rw[Int.natAbs_natCast]at this;have:=ha.2;have:=hb.1;omega
theorem PX{a b:Q}(ha:okQ a)(hb:b.1≠0):okQ (rr a b):=uG (Xy (by have:=ha.1;omega) hb)
theorem aef(h:af8 ts):okT ts:=⟨by have:=h.1;omega,λt ht=>⟨(h.2 t ht).1,by have:=(h.2 t ht).2.1;omega,(h.2 t ht).2.2⟩⟩
theorem OH(n:Nat):okS (nO n):=λx hx=>by
 unfold nO at hx;simp only[Zy]at hx;rcases hx with rfl|hx
 .exact EQ 1 aa aa
 .have:=List.eq_of_mem_replicate hx;subst this;exact EQ 0 aa aa
def gN:LiQ->LiQ->Int
 |a::r,b::t=>a*b+gN r t
 |_,_=>0
def Ls(E:Int)(ws:Int):LiQ->LiQ->LiQ->Bool
 |w::W,l::L,u::U=>decide (E*u=w+ws*l)&&Ls E ws W L U
 |[],[],[]=>true
 |_,_,_=>false
def aaP:LiQ->Nat
 |[]=>0
 |w::W=>w.natAbs+aaP W
theorem Q1{E ws:Int}:∀{w L u:LiQ},Ls E ws w L u=true->∀c:LiQ,E*gN c u=gN c w+ws*gN c L
 |[],[],[],_,c=>by cases c<;>simp[gN]
 |w::W,l::L,u::U,h,[]=>by simp[gN]
 | w::W,l::L,u::U,h,x::c=>by
  simp only[Ls,Z7,decide_eq_true_eq]at h;have ih:=Q1 h.2 c;simp only[gN,Int.mul_add];rw[ih]
  have e1:E*(x*u)=x*w+ws*(x*l):=by
   have:E*(x*u)=x*(E*u):=by rw[Int.mul_left_comm]
   rw[this,h.1,Int.mul_add,Int.mul_left_comm x ws l]
  rw[e1];omega
 |[],[],_::_,h,_=>by simp[Ls]at h
 |[],_::_,_,h,_=>by simp[Ls]at h
 |_::_,[],_,h,_=>by simp[Ls]at h
 |_::_,_::_,[],h,_=>by simp[Ls]at h
theorem YU{B:Nat}:∀(c w:LiQ),(∀x∈c,x.natAbs<=B)->(gN c w).natAbs<=aaP w*B
 |[],w,_=>by simp[gN]
 |x::c,[],_=>by simp[gN]
 | x::c,w::W,h=>by
  have h1:=h x ac;have ih:=YU c W λy hy=>h y (by simp[hy])
  have h2:(x*w).natAbs<=w.natAbs*B:=by
   rw[Zm,Zo];exact Z1 _ h1
  have h3:=X7 (x*w) (gN c W);simp only[gN,aaP,Nat.add_mul];omega
structure Kp where
 w:LiQ
 s:Int
 u:LiQ
variable{rs:List Kp}
def aa9(k E B G:Nat)(L:LiQ)(r:Kp):Bool:=Ls E r.s r.w L r.u&&decide (aaP r.w*B+r.s.natAbs*G<E)&&decide (r.u.length=k)
theorem row_zero{B:Nat}{L:LiQ}{r:Kp}(h:aa9 k E B G L r=true){c:LiQ}(hc:∀x∈c,x.natAbs<=B)(hL:(gN c L).natAbs<=G):gN c r.u=0:=by
 simp only[aa9,Z7,decide_eq_true_eq]at h;have h1:=Q1 h.1.1 c;have h2:=YU c r.w hc
 have h3:(r.s*gN c L).natAbs<=r.s.natAbs*G:=by
  rw[Zm];exact Z1 _ hL
 have h4:=X7 (gN c r.w) (r.s*gN c L);rw[<-h1,Zm,Int.natAbs_natCast]at h4;have h5:E*(gN c r.u).natAbs<E*1:=by rw[Yp];exact Ze (Z4 h4 (Nat.add_le_add h2 h3)) h.1.2
 have h6:=Xa h5;omega
def O1(v:Int):LiQ->LiQ->LiQ
 |x::a,y::b=>(v*x+y)::O1 v a b
 |_,_=>[]
def G1(k:Nat):LiQ->LLQ->LiQ
 |v::V,u::U=>O1 v u (G1 k V U)
 |_,_=>List.replicate k 0
theorem MM(v:Int):∀(c a b:LiQ),a.length=b.length->gN c (O1 v a b)=v*gN c a+gN c b
 |[],a,b,_=>by simp[gN]
 |x::c,[],[],_=>by simp[gN,O1]
 | x::c,y::a,z::b,h=>by
  simp only[O1,gN,MM v c a b (by simpa using h),Int.mul_add];rw[Int.mul_left_comm x v y];omega
 |x::c,[],_::_,h=>by simp at h
 |x::c,_::_,[],h=>by simp at h
theorem Ni(v:Int):∀(a b:LiQ),a.length=b.length->(O1 v a b).length=a.length
 |[],[],_=>rfl
 |x::a,y::b,h=>by simp[O1,Ni v a b (by simpa using h)]
 |[],_::_,h=>by simp at h
 |_::_,[],h=>by simp at h
theorem M0{k:Nat}:∀(V:LiQ)(U:LLQ),(∀u∈U,u.length=k)->(G1 k V U).length=k
 |[],_,_=>by simp[G1]
 |_::_,[],_=>by simp[G1]
 | v::V,u::U,h=>by
  have h1:=h u ac;have ih:=M0 V U λy hy=>h y (by simp[hy])
  rw[G1,Ni v _ _ (by rw[h1,ih]),h1]
theorem JY:∀(c:LiQ)(k:Nat),gN c (List.replicate k 0)=0
 |[],k=>by simp[gN]
 |x::c,0=>by simp[gN]
 |x::c,k+1=>by simp[List.replicate_succ,gN,JY c k]
theorem ML{k:Nat}{c:LiQ}:∀(V:LiQ)(U:LLQ),(∀u∈U,u.length=k)->(∀u∈U,gN c u=0)->gN c (G1 k V U)=0
 |[],_,_,_=>by rw[G1];exact JY c k;simp
 |_::_,[],_,_=>by rw[G1];exact JY c k;simp
 | v::V,u::U,h,h0=>by
  have h1:=h u ac;have hl:=M0 V U λy hy=>h y (by simp[hy])
  rw[G1,MM v _ _ _ (by rw[h1,hl]),h0 u ac,ML V U (λy hy=>h y (by simp[hy])) λy hy=>h0 y (by simp[hy])];simp
def Hb:Nat->LiQ->Bool
 |0,x::r=>decide (x=1)&&r.all λy=>decide (y=0)
 |i+1,x::r=>decide (x=0)&&Hb i r
 |_,[]=>false
theorem Q3:∀(c r:LiQ),(r.all λy=>decide (y=0))=true->gN c r=0
 |[],r,_=>by simp[gN]
 |x::c,[],_=>by simp[gN]
 | x::c,y::r,h=>by
  simp only[List.all_cons,Z7,decide_eq_true_eq]at h;simp[gN,h.1,Q3 c r h.2]
theorem MI:∀(i:Nat)(c r:LiQ),Hb i r=true->gN c r=c.getD i 0
 |_,[],r,_=>by simp[gN]
 |i,x::c,[],h=>by cases i<;>simp[Hb]at h
 | 0,x::c,y::r,h=>by
  simp only[Hb,Z7,decide_eq_true_eq]at h;simp[gN,h.1,Q3 c r h.2]
 | i+1,x::c,y::r,h=>by
  simp only[Hb,Z7,decide_eq_true_eq]at h;simp[gN,h.1,MI i c r h.2]
def Iu(k E B G:Nat)(L:LiQ)(rs:List Kp)(V:LLQ):Bool:=
 rs.all (aa9 k E B G L)&&(List.range k).all λi=>Hb i (G1 k (V.getD i []) (rs.map Kp.u))
theorem Tu{B:Nat}{L:LiQ}{V:LLQ}(h:Iu k E B G L rs V=true){c:LiQ}(hk:c.length=k)(hc:∀x∈c,x.natAbs<=B)(hL:(gN c L).natAbs<=G):∀x∈c,x=0:=by
 simp only[Iu,Z7,Zz,Xi]at h;intro x hx;obtain⟨i,hi,rfl⟩:=Wm hx;have h1:=h.2 i aa;have h2:=MI i c _ h1
 have hu:∀u∈rs.map Kp.u,u.length=k:=by
  intro u hu;obtain⟨r,hr,rfl⟩:=Zw.1 hu;have:=h.1 r hr;simp only[aa9,Z7,decide_eq_true_eq]at this;exact this.2
 have hz:∀u∈rs.map Kp.u,gN c u=0:=by
  intro u hu;obtain⟨r,hr,rfl⟩:=Zw.1 hu;exact row_zero (h.1 r hr) hc hL
 rw[ML _ _ hu hz]at h2;rw[Z6,List.getElem?_eq_getElem hi]at h2;simpa using h2.symm
def ivR(p q a:Int):LiQ->LiQ->LiQ
 |t::ts,r::rs=>(p*t-a*r)/q::ivR p q a ts rs
 |_,_=>[]
def ivU(p q:Int)(rest:LiQ):LLQ->LLQ
 |(a::t)::R=>ivR p q a t rest::ivU p q rest R
 |_=>[]
def ivG:Nat->LLQ->Int->LLQ->LLQ
 |n+1,D,q,(p::rest)::R=>ivG n (ivU p q rest D++[rest]) p (ivU p q rest R)
 |_,D,q,_=>D.map λr=>r.map (q * ·)
def afA(k i:Nat):LiQ:=(List.range k).map λj=>if i=j then 1 else 0
def agY(k:Nat):Nat->LLQ->LLQ
 |i,v::V=>(v++afA k i)::agY k (i+1) V
 |_,[]=>[]
def ivM(k:Nat)(V:LLQ):LLQ:=ivG k [] 1 (agY k 0 V)
def ah1(E:Int)(L:LiQ)(u:LiQ):Kp:=⟨List.zipWith (λx l=>E*x-u.getLastD 0*l) u L,u.getLastD 0,u⟩
def lgI(n:Nat)(p:Int):Int:=(lg p n:Int)
def c6P:LiQ:=[2,3,5,7,11,13]
def c6L:LiQ:=c6P.map (lgI 2048)
def c6E:Nat:=lg 13 2048
def c6V:LLQ:=[[2505632726243893919427248,37363649317514420902466093,46477260228354403041493751,-58003229516542057431797140,-15057295410276108388899585,-14971856798368046033805264],[-6468867710079767890381561,-11119633146733715149791251,25758522260144387158066355,25120626473553828029748921,-21017786884855784315416113,20457306914538837573482104],[-10822464117439059568603833,19535643540806504414588147,459074409943010318492609,9756398330483923621702778,-50098038355954498359498971,-61366103515540422680131324],[14537544594484470209685826,5835193301654337655457460,-30420219925102840764344579,-25199522547478204684291748,-18922988829788052015374945,35044169305270853272295706],[-33980339139849080327203319,-31910829884962694460020145,2738906948132587203398157,-12766138930794734537985420,30249525070648516782987174,10887861776468812857315007],[29622662201364248515898145,7813143869208612526792154,-3362896834617060908787601,29845618333873557643178232,30583155841379738043590236,-2975798287937716846607034]]
theorem aiz:c6P.map (lgI 2048)=c6L:=rfl
def c6R:List Kp:=(ivM 6 c6V).map (ah1 c6E c6L)
theorem aac:Iu 6 c6E 73786976294838206464 73786976294838206464 c6L c6R c6V=true:=aG
theorem acs:Iu 6 c6E 73786976294838206464 73786976294838206464 (c6P.map (lgI 2048)) c6R c6V=true:=by rw[aiz];exact aac
def IM(h:Int->Int):List (Int×Int)->Int
 |[]=>0
 |t::ts=>t.2*h t.1+IM h ts
def AQ:List (Int×Int)->Nat
 |[]=>0
 |t::ts=>t.2.natAbs+AQ ts
def cfT:List (Int×Int)->Int->Int
 |[],_=>0
 |t::ts,c=>(if t.1=c then t.2 else 0)+cfT ts c
theorem MH(n:Nat):∀ts:List (Int×Int),(ic n ts (0,0)).1<=IM (lgI n) ts∧IM (lgI n) ts<=(ic n ts (0,0)).2∧(ic n ts (0,0)).2-(ic n ts (0,0)).1<=AQ ts
 |[]=>by simp[ic,IM,AQ]
 | t::ts=>by
  obtain⟨h1,h2,h3⟩:=MH n ts;obtain⟨x,hx⟩:∃x:Int,x=lg t.1 n:=⟨_,rfl⟩;obtain⟨y,hy⟩:∃y:Int,y=if t.1=2 then x else x+1:=⟨_,rfl⟩
  have hxy:y=x∨y=x+1:=by rw[hy];split<;>simp
  have e:ic n (t::ts) (0,0)=ic n ts (if t.2<0 then(0+y*t.2,0+x*t.2)else(0+x*t.2,0+y*t.2)):=by
   rw[hy,hx];rfl
  have e2:IM (lgI n) (t::ts)=t.2*x+IM (lgI n) ts:=by rw[hx];rfl
  rw[e,e2,Ai ts];simp only[AQ,Int.zero_add]
  have m1:y*t.2=x*t.2∨y*t.2=x*t.2+t.2:=by
   rcases hxy with h|h
   .left;rw[h]
   .right;rw[h,Int.add_mul,Int.one_mul]
  rw[X0 t.2 x];by_cases hn:t.2<0
  .rw[if_pos hn];simp only;omega
  .rw[if_neg hn];simp only;omega
theorem MK(f g:Int->Int):∀(P L:LiQ),gN (P.map λc=>f c+g c) L=gN (P.map f) L+gN (P.map g) L
 |[],L=>by simp[gN]
 |p::P,[]=>by simp[gN]
 | p::P,l::L=>by
  simp only[Zs,gN,MK f g P L,Int.add_mul];omega
theorem MJ(h:Int->Int)(a z:Int):∀P:LiQ,a ∉ P->gN (P.map λc=>if a=c then z else 0) (P.map h)=0
 |[],_=>by simp[gN]
 | p::P,hn=>by
  simp only[Zy,not_or]at hn;simp[gN,hn.1,MJ h a z P hn.2]
theorem Q2(h:Int->Int)(a z:Int):∀P:LiQ,P.Nodup->a∈P->gN (P.map λc=>if a=c then z else 0) (P.map h)=z*h a
 |[],_,hm=>by simp at hm
 | p::P,hn,hm=>by
  rw[Xo]at hn;by_cases e:a=p
  .subst e;simp[gN,MJ h a z P hn.1]
  .have:a∈P:=by simpa[e]using hm
   simp[gN,e,Q2 h a z P hn.2 this]
theorem KJ(h:Int->Int){P:LiQ}(hP:P.Nodup):∀ts:List (Int×Int),(∀t∈ts,t.1∈P)->IM h ts=gN (P.map (cfT ts)) (P.map h)
 | [],_=>by
  have:∀P:LiQ,gN (P.map (cfT [])) (P.map h)=0:=by
   intro P
   induction P with
   |nil=>rfl
   |cons p P ih=>rw[Zs,Zs,gN,ih];simp[cfT]
  rw[this];rfl
 | t::ts,hm=>by
  rw[IM,KJ h hP ts λu hu=>hm u (by simp[hu])];have:cfT (t::ts)=λc=>(if t.1=c then t.2 else 0)+cfT ts c:=by funext c;rfl
  rw[this,MK,Q2 h t.1 t.2 P hP (hm t ac)]
theorem ZS(c:Int):∀ts:List (Int×Int),(cfT ts c).natAbs<=AQ ts
 |[]=>by simp[cfT]
 | t::ts=>by
  have:=ZS c ts;simp only[cfT,AQ];split<;>omega
theorem Rh{c:Int}:∀ts:List (Int×Int),c ∉ ts.map Prod.fst->cfT ts c=0
 |[],_=>rfl
 | t::ts,h=>by
  simp only[Zs,Zy,not_or]at h;rw[cfT,if_neg (λe=>h.1 e.symm),Rh ts h.2];rfl
theorem SC{B:Nat}{V:LLQ}(hc:Iu k E B G (P.map (lgI n)) rs V=true)(hk:P.length=k)(hP:P.Nodup)(hm:∀t∈ts,t.1∈P)(hB:AQ ts<=B)(hG:(IM (lgI n) ts).natAbs<=G):∀c∈P,cfT ts c=0:=by
 intro c hcP
 have h1:=Tu hc (c:=P.map (cfT ts)) (by simpa using hk) (by
  intro x hx;obtain⟨d,_,rfl⟩:=Zw.1 hx;exact Z4 (ZS d ts) hB) (by rw[<-KJ (lgI n) hP ts hm];exact hG)
 exact h1 _ (List.mem_map_of_mem hcP)
theorem aa2{B:Nat}{V:LLQ}(hc:Iu k E B G (P.map (lgI n)) rs V=true)(hk:P.length=k)(hP:P.Nodup)(hm:∀t∈ts,t.1∈P)(hn:(ts.map Prod.fst).Nodup)(h0:∀t∈ts,t.2≠0)(hB:AQ ts<=B)(hG:AQ ts<=G)(hne:ts≠[]):
  0<=(ic n ts (0,0)).1∨(ic n ts (0,0)).2<=0:=by
 obtain⟨g1,g2,g3⟩:=MH n ts;by_cases hd:0<=(ic n ts (0,0)).1∨(ic n ts (0,0)).2<=0
 .exact hd
 .exfalso;have hz:=SC hc hk hP hm hB aa;cases ts with
  |nil=>exact hne rfl
  | cons t ts=>
   have h1:=hz t.1 (hm t ac);simp only[Zs,Xo]at hn;rw[cfT,if_pos rfl,Rh ts hn.1]at h1;exact h0 t ac aa
theorem HA{ts:List (Int×Int)}:∀(r n j:Nat),j<r->(0<=(ic (n*2^j) ts (0,0)).1∨(ic (n*2^j) ts (0,0)).2<=0)->∃s,Li ts r n=some s∧(s=1∨s = -1)
 |0,n,j,hj,_=>by omega
 | r+1,n,j,hj,h=>by
  unfold Li;by_cases h1:0<=(ic n ts (0,0)).1
  .exact⟨1,by rw[if_pos h1],Or.inl rfl⟩
  .by_cases h2:(ic n ts (0,0)).2<=0
   .exact⟨-1,by rw[if_neg h1,if_pos h2],Or.inr rfl⟩
   .rw[if_neg h1,if_neg h2];cases j with
    |zero=>simp at h;omega
    | succ j=>
     refine HA r (n*2) j aa ?_;have:n*2*2^j=n*2^(j+1):=by rw[Nat.pow_succ,Nat.mul_assoc,Zo 2]
     rw[this];exact h
theorem N3(ts:List (Int×Int)): -1<=nf ts∧nf ts<=1:=by
 unfold nf;split
 .decide
 .split
  .decide
  .split<;>decide
theorem R8(h:ts≠[]->∃s,Li ts 6 64=some s∧(s=1∨s = -1)):∃z,Hy ts=some z∧-1<=z∧z<=1:=by
 cases ts with
 |nil=>exact⟨0,rfl,ae,ae⟩
 | cons t ts=>
  unfold Hy;simp only;by_cases hq:nf (t::ts)≠0
  .rw[if_pos hq];exact⟨_,rfl,N3 _⟩
  .rw[if_neg hq];obtain⟨s,hs,hv⟩:=h ac;refine⟨s,hs,?_⟩;omega
def agl(n:Nat)(p:Int):Bool:=(SI p.toNat n).isSome&&decide (2^n<=lg p n)&&decide (lg p n+1<=8*2^n)
theorem agR:∀p∈c6P,∀i∈List.range 6,agl (64*2^i) p=true:=aG
theorem aei{x:Nat}(hk:1<=k)(h:x<2^(3*k)):ndg x<=k:=by refine dG (Z2 h ?_) hk;rw[Wc];exact Nat.pow_le_pow_left ae k
theorem VS{x m:Nat}(hk:1<=k)(hm:m+3<=3*k)(h:x+1<=8*2^m):ndg x<=k:=by
 refine aei hk (Z2 (Z2 (Nat.lt_succ_self x) h) ?_);have e:8*2^m=2^(m+3):=by rw[Yr,Zo]
 rw[e];exact Z3 ae hm
theorem adu:∀p∈c6P,2<=p∧p<128:=ae
theorem agQ:c6P.Nodup:=ae
theorem agS{p:Int}(hp:p∈c6P)(hi:i<6):(SI p.toNat (64*2^i)).isSome=true∧2^(64*2^i)<=lg p (64*2^i)∧lg p (64*2^i)+1<=8*2^(64*2^i):=by have:=agR p hp i (Xi.2 hi);simp only[agl,Z7,decide_eq_true_eq]at this;exact⟨this.1.1,this.1.2,this.2⟩
theorem ae3(h:∀t∈ts,t.1∈c6P):Qt ts:=by intro i hi t ht;obtain⟨h1,h2,h3⟩:=agS (h t ht) hi;obtain⟨p1,p2⟩:=adu _ (h t ht);refine⟨p1,aa,h1,?_⟩;obtain⟨k,hk⟩:=nmQ (1500);rw[<-hk];refine VS aa ?_ h3;have:2^i<=2^5:=Z3 ae aa;omega
theorem Pr{C:Nat}:∀ts:List (Int×Int),(∀t∈ts,t.2.natAbs<=C)->AQ ts<=ts.length*C
 |[],_=>by simp[AQ]
 | t::ts,h=>by
  have h1:=h t ac;have h2:=Pr ts λu hu=>h u (by simp[hu])
  simp only[AQ,List.length_cons,Xt];omega
theorem ae2(hm:∀t∈ts,t.1∈c6P)(hn:(ts.map Prod.fst).Nodup)(h0:∀t∈ts,t.2≠0)(hl:ts.length<=6)(hb:∀t∈ts,t.2.natAbs<9223372036854775808):∃z,Hy ts=some z∧-1<=z∧z<=1:=by
 refine R8 λhne=>HA 6 64 5 ae ?_
 have h1:=Pr (C:=9223372036854775808) ts λt ht=>Nat.le_of_lt (hb t ht)
 have h2:ts.length*9223372036854775808<=6*9223372036854775808:=Zv _ hl;have hb1:AQ ts<=73786976294838206464:=aa;have h3:=aa2 (n:=2048) acs rfl agQ hm hn h0 hb1 hb1 hne;have e:64*2^5=2048:=ae;rw[e];exact h3
def rp(b:Nat)(x:Q)(a:Int):Prop:=okQ x∧x.1*(b:Int)=a*(x.2:Int)
theorem UO{n a:Int}{b:Nat}(hd:0<d)(h:n*(b:Int)=a*(d:Int)):rp b (lY n d) a:=by
 obtain⟨h1,h2⟩:=Do n hd;refine⟨Dn n hd,?_⟩;have hd':(d:Int)≠0:=aa;refine Int.eq_of_mul_eq_mul_right hd' ?_
 calc (lY n d).1*(b:Int)*(d:Int)=(lY n d).1*(d:Int)*(b:Int):=by rw[Xf]
  _=n*((lY n d).2:Int)*(b:Int):=by rw[h1]
  _=n*(b:Int)*((lY n d).2:Int):=by rw[Xf]
  _=a*((lY n d).2:Int)*(d:Int):=by rw[h,Xf]
theorem ad0{b:Nat}{x y:Q}{a c:Int}(hx:rp b x a)(hy:rp b y c):rp b (oL x y) (a+c):=by
 have p1:=hx.1.1;have p2:=hy.1.1;refine UO (Yl p1 p2) ?_;rw[Int.add_mul,Int.add_mul,Int.natCast_mul]
 have e1:x.1*(y.2:Int)*(b:Int)=a*((x.2:Int)*(y.2:Int)):=by
  rw[Xf,hx.2,Int.mul_assoc]
 have e2:y.1*(x.2:Int)*(b:Int)=c*((x.2:Int)*(y.2:Int)):=by
  rw[Xf,hy.2,Int.mul_assoc,X0 (y.2:Int)]
 rw[e1,e2]
theorem aa8{b:Nat}{x:Q}{a:Int}(z:Int)(hx:rp b x a):rp b (vt x (z,1)) (z*a):=by have p1:=hx.1.1;refine UO (by simpa using p1) ?_;simp only[Yp];rw[Xf,hx.2,Int.mul_assoc,X0 (x.2:Int),<-Int.mul_assoc,X0 a]
theorem aa7(b:Nat):rp b (0,1) 0:=⟨⟨ae,ae⟩,ac⟩
theorem UP{b:Nat}{x:Q}{a:Int}(h:rp b x a):x.2∣b:=by
 have h1:x.1.natAbs*b=a.natAbs*x.2:=by
  have:=congrArg Int.natAbs h.2;simpa[Zm]using this
 have h2:x.2∣x.1.natAbs*b:=⟨a.natAbs,by rw[h1,Zo]⟩;exact Nat.Coprime.dvd_of_dvd_mul_left (Nat.Coprime.symm h.1.2) h2
theorem adZ{b:Nat}{x:Q}{a:Int}(hb:0<b)(h:rp b x a):x.1.natAbs*(b/x.2)=a.natAbs:=by
 obtain⟨m,hm⟩:=UP h
 have h1:x.1.natAbs*b=a.natAbs*x.2:=by
  have:=congrArg Int.natAbs h.2;simpa[Zm]using this
 have p:=h.1.1;rw[hm,Nat.mul_div_cancel_left _ p];refine Nat.eq_of_mul_eq_mul_right p ?_;rw[<-h1,hm,Nat.mul_assoc,Zo m]
def bdL(b B:Nat)(s:List Q):Prop:=∀x∈s,∃a:Int,rp b x a∧a.natAbs<=B
theorem Kg{b A C:Nat}(z:Int):∀{o s:List Q},bdL b A o->bdL b C s->bdL b (A+z.natAbs*C) (yS (z,1) o s)
 | x::o,y::s,ho,hs=>by
  obtain⟨a,a1,a2⟩:=ho x ac;obtain⟨c,c1,c2⟩:=hs y ac;have ih:=Kg z (o:=o) (s:=s) (λu hu=>ho u (by simp[hu])) λu hu=>hs u (by simp[hu])
  intro u hu;simp only[yS,Zy]at hu;rcases hu with rfl|hu
  .refine⟨a+z*c,ad0 a1 (aa8 z c1),?_⟩;have h1:=X7 a (z*c);rw[Zm]at h1;have h2:=Z1 z.natAbs c2;omega
  .exact ih u hu
 |[],s,_,_=>by intro u hu;simp[yS]at hu
 |_::_,[],_,_=>by intro u hu;simp[yS]at hu
theorem aao(b n:Nat):bdL b 0 (List.replicate n (0,1)):=λx hx=>by
 rw[Wd]at hx;rw[hx.2];exact⟨0,aa7 b,ac⟩
theorem acI{b A B:Nat}{w:Int}(h:bdL b A s)(h':bdL b B t):bdL b (z.natAbs*A+w.natAbs*B) (vm n [s,t] [(z,1),(w,1)]):=by have:=Kg w (Kg z (aao b n) h) h';simpa[vm,Gv]using this
theorem agX{b B:Nat}(hb:0<b)(h:bdL b B s):∀x∈s,okQ x:=λx hx=>by
 obtain⟨a,h1,h2⟩:=h x hx;exact h1.1
theorem Q7{b:Nat}:∀{s:List Q}{d:Nat},d∣b->(∀x∈s,x.2∣b)->wZ d s∣b
 |[],d,h,_=>h
 |x::s,d,h,hs=>Q7 (s:=s) (Nat.lcm_dvd h (hs x ac)) λy hy=>hs y (by simp[hy])
theorem ae9{b B:Nat}(h:bdL b B s):wZ 1 s∣b:=Q7 (Nat.one_dvd b) λx hx=>by
 obtain⟨a,r1,r2⟩:=h x hx;exact UP r1
theorem KT{b B d:Nat}(hb:0<b)(hd:d∣b):∀{p:LiQ}{s:List Q},bdL b B s->∀t∈jQ d p s,t.2.natAbs<=B
 |[],s,_,t,ht=>by simp[jQ]at ht
 |p::ps,[],_,t,ht=>by simp[jQ]at ht
 | p::ps,x::s,h,t,ht=>by
  obtain⟨a,r1,r2⟩:=h x ac;have ih:=KT hb hd (p:=ps) (s:=s) λy hy=>h y (by simp[hy])
  simp only[jQ]at ht
  have hx:(x.1*((d/x.2:Nat):Int)).natAbs<=B:=by
   rw[Zm,Int.natAbs_natCast];have h1:=adZ hb r1;have h2:d/x.2<=b/x.2:=Nat.div_le_div_right (Wx hb hd);have h3:=Z1 x.1.natAbs h2;omega
  split at ht
  .exact ih t ht
  .simp only[Zy]at ht;rcases ht with rfl|ht
   .exact hx
   .exact ih t ht
theorem AN{d:Nat}:∀{p:LiQ}{s:List Q},∀t∈jQ d p s,t.1∈p
 |[],s,t,ht=>by simp[jQ]at ht
 |p::ps,[],t,ht=>by simp[jQ]at ht
 | p::ps,x::s,t,ht=>by
  have ih:=AN (d:=d) (p:=ps) (s:=s);simp only[jQ]at ht;split at ht
  .exact List.mem_cons_of_mem _ (ih t ht)
  .simp only[Zy]at ht;rcases ht with rfl|ht
   .simp
   .exact List.mem_cons_of_mem _ (ih t ht)
theorem KR{d:Nat}:∀{p:LiQ}{s:List Q},p.Nodup->((jQ d p s).map Prod.fst).Nodup
 |[],s,_=>by simp[jQ]
 |p::ps,[],_=>by simp[jQ]
 | p::ps,x::s,h=>by
  rw[Xo]at h;have ih:=KR (d:=d) (p:=ps) (s:=s) h.2;simp only[jQ];split
  .exact ih
  .simp only[Zs,Xo];refine⟨λhm=>?_,ih⟩;obtain⟨t,ht,e⟩:=Zw.1 hm;exact h.1 (by rw[<-e];exact AN t ht)
theorem KS{d:Nat}(hd:0<d):∀{p:LiQ}{s:List Q},(∀x∈s,0<x.2∧x.2∣d)->∀t∈jQ d p s,t.2≠0
 |[],s,_,t,ht=>by simp[jQ]at ht
 |p::ps,[],_,t,ht=>by simp[jQ]at ht
 | p::ps,x::s,h,t,ht=>by
  have ih:=KS hd (p:=ps) (s:=s) λy hy=>h y (by simp[hy])
  obtain⟨h1,h2⟩:=h x ac;have h3:0<d/x.2:=Nat.div_pos (Wx hd h2) h1;simp only[jQ]at ht;split at ht
  .exact ih t ht
  .rename_i hx;simp only[Zy]at ht;rcases ht with rfl|ht
   .exact Xy hx aa
   .exact ih t ht
def in6(p:LiQ):Prop:=p.Nodup∧p.length<=6∧∀x∈p,x∈c6P
theorem NC{p:LiQ}(hp:in6 p):∀t∈tq p s,t.1∈c6P:=λt ht=>hp.2.2 _ (AN t ht)
theorem adQ{p:LiQ}{b B:Nat}(hp:in6 p)(hb:0<b)(h:bdL b B s)(hB:B<9223372036854775808):af8 (tq p s):=by
 refine⟨?_,λt ht=>?_⟩
 .have:=AO (d:=wZ 1 s) p s;have:=hp.2.1;unfold tq;omega
 .obtain⟨h1,h2⟩:=adu _ (NC hp t ht);exact⟨h1,h2,Ze (KT hb (ae9 h) h t ht) hB⟩
theorem sg6{p:LiQ}{b B:Nat}(hp:in6 p)(hb:0<b)(h:bdL b B s)(hB:B<9223372036854775808):∃z,afW p s z∧-1<=z∧z<=1:=by
 have h1:=adQ hp hb h hB;have hd:∀x∈s,0<x.2:=λx hx=>(agX hb h x hx).1
 have hl:(tq p s).length<=6:=by
  have:=AO (d:=wZ 1 s) p s;have:=hp.2.1;unfold tq;omega
 obtain⟨z,hz,z1⟩:=ae2 (NC hp) (KR hp.1) (KS (FQ ae hd) λx hx=>⟨hd x hx,(FR (s:=s) (d:=1)).2 x hx⟩) hl λt ht=>(h1.2 t ht).2.2
 exact⟨z,⟨aef h1,ae3 (NC hp),hz⟩,z1⟩
def acL:Acc:=⟨1,0,1,.none⟩
def tc:LLQ:=[[2,3,5],[2,3,5,7],[2,3],[2,3,7],[2,5,7],[3,5,7],[2,3,5,11],[2],[2,3,7,13],[3,5,7,13]]
def kV(k:Nat):LiQ:=tc.getD (k%10) []
theorem LH(hk:k<256):CP Y F.eD [.d (.int .u8 k)] (lst di (kV k)):=by
 refine vq ?_;have c1:cvI .i64 (.d (.int .u8 (k:Int)))=some (I k):=by rw[Q9,wrap_i64 ⟨aa,aa⟩]
 have m1:biI .rem (I (k:Int)) (I 10)=some (I ((k%10:Nat):Int)):=by
  rw[acB aa,Zt aa];congr 3
 have hkk:k%10<10:=Yz _ ae;have i1:=λH:Hp=>oO row tc H (k:=.i64) (i:=((k%10:Nat):Int)) aa (by show((k%10:Nat):Int)<10;omega)
 have i2:=λH:Hp=>eX row [] tc H (j:=k%10) hkk
 have hn:nth [] tc (k%10)=kV k:=rfl;rw[hn]at i2;generalize k%10=j at *;simp only[Int.toNat_natCast]at i1;simp(disch:=try exact af)[eD,fJ,iS,kP,toD,c1];have hw:IntKind.wrap .i64 (k:Int)=(k:Int):=wrap_i64 ⟨aa,aa⟩
 show rn (bnd (aN (lst row tc))) (λv13=>bnd (biI .rem (.d (.int .i64 (IntKind.i64.wrap k))) v13) λv14=>bnd (ixV [] 1 (lst row tc) v14) λv15=>bnd (ld1 [] v15) λv16=>out (lst di (kV k)) v16 []) .mk
 have l10:aN (lst row tc)=some (I 10):=rfl;rw[hw,l10];rw[ad2];rw[show biI .rem (.d (.int .i64 (k:Int))) (I 10)=some (I (j:Int))from m1];rw[As,i1,As,i2,As];exact abm ..
def itv(l:Nat)(e:LiQ):LiQ:=(e.take l).map λx=>x.tmod 10
def i8V(x:Int):V:=.d (.int .i8 x)
def itH(e:LiQ)(L:Nat)(c:LdQ):Hp:=[(1,.vars (e.map i8V)),acL.b L c]
theorem VI:∀e:LiQ,offB [] (.vars (e.map i8V))=true
 |[]=>rfl
 | x::e=>by
  have:=VI e;rw[HS]at this ⊢;simp[je,qb,i8V];simpa[i8V]using this
theorem Mo{p:LiQ}{e:LiQ}(he:e.length=4)(hb:∀x∈e,-128<=x∧x<=127)(hp:p.length<=4)(k:KL)(h0:Hp)(hh:h0.length=2):∀(f i:Nat),i+f=p.length ->
  k (.exit 0) [acL.v (itv p.length e).length ((itv p.length e).map di)] (itH e (itv p.length e).length ((itv p.length e).map di)) ->
  lp (gU (CX Y) (lst di p) (.ptr 0 1 0 4)) [] h0 [acL.v (itv i e).length ((itv i e).map di),I i] (itH e (itv i e).length ((itv i e).map di)) k
 | 0,i,hi,hk=>by
  have g:¬(i:Int)<(p.length:Int):=aa;have:i=p.length:=aa;subst this;have l1:aN (lst di p)=some (I p.length):=rfl;refine ai ?_;simp(disch:=try exact af)[gU,l1];exact hk
 | f+1,i,hi,hk=>by
  have g:(i:Int)<(p.length:Int):=aa;have g2:(i:Int)<4:=aa;have l1:aN (lst di p)=some (I p.length):=rfl;obtain⟨x,hx⟩:∃x,e[i]?=some x:=⟨e[i]'(by omega),List.getElem?_eq_getElem aa⟩;have hxm:=hb x (X4 hx);have li:(itv i e).length=i:=by simp[itv];omega
  have ih:=Mo he hb hp k h0 hh f (i+1) aa hk
  have es:itv (i+1) e=itv i e++[x.tmod 10]:=by
   unfold itv;rw[List.take_add_one,hx];simp
  rw[es]at ih;have hlt:i<e.length:=aa
  have hxe:e[i]=x:=by
   have:=List.getElem?_eq_getElem hlt;rw[hx]at this;simpa using this.symm
  have he':4=e.length:=he.symm;have r1 : -10<x.tmod 10:=Int.lt_tmod_of_pos x ae;have r2:=Int.tmod_lt_of_pos x (b:=10) ae;have li1:∀(z:Int)(H:Hp),fJ 1 [D.int IntKind.i64 0] [(0,V.d (D.int IntKind.i64 z))] H=some ([di z],H):=λz H=>by simp[fJ,iS,kP,toD,di]
  have cR:((itv i e).map di).length=(itv i e).length*acL.n:=by simp[acL]
  have b6:∀x y:Nat×Bk,([(1,.vars (e.map i8V)),x]:Hp).set acL.s y=[(1,.vars (e.map i8V)),y]:=λx y=>rfl
  have hre:∀x:Hp,x.length=2->aH [] 0 h0 x=x:=λx hx=>p9 0 h0 x aa
  have ev:∀c,acL.v ((itv i e).length+1) c=.ref acL.s (acL.e+1) 0 ((itv i e).length+1) ((itv i e).length+1) c.length:=λc=>rfl
  have eb:∀c,acL.b ((itv i e).length+1) c=(acL.e+1,.data acL.n c false false):=λc=>rfl
  refine ai ?_;simp(disch:=try exact af)[gU,l1,g,g2,itH,he',hxe,i8V,li1];refine nU acL (k:=1) aa rfl cR (by rfl) rfl (λt e=>by cases e) aa ae ?_;have hoff:=VI e;simp(disch:=try exact af)[b6,hre,clean,je,HQ,HP,gZ,qb,hoff];refine⟨rfl,?_⟩;simpa[ev,eb,itH]using ih
theorem Nr{p:LiQ}{a b c d:Int}(ha : -128<=a∧a<=127)(hb : -128<=b∧b<=127)(hc : -128<=c∧c<=127)(hd : -128<=d∧d<=127)(hp:p.length<=4):CP Y F.dF [lst di p,.agg [i8V a,i8V b,i8V c,i8V d]] (lst di (itv p.length [a,b,c,d])):=by
 refine tR ?_
 have hl:=Mo (p:=p) (e:=[a,b,c,d]) rfl (by
  intro x hx;simp only[Zy,Yv,or_false]at hx;rcases hx with rfl|rfl|rfl|rfl<;>assumption) hp (exK [((.exit 0),λl2 h=>out (lst di (itv p.length [a,b,c,d])) (ge l2 0) h)]) [(1,.vars [i8V a,i8V b,i8V c,i8V d]),nnQ] rfl p.length 0 aa (by
  obtain⟨h',q1,_⟩:=nC acL (L:=(itv p.length [a,b,c,d]).length) (cells:=(itv p.length [a,b,c,d]).map di) (h:=itH [a,b,c,d] (itv p.length [a,b,c,d]).length ((itv p.length [a,b,c,d]).map di)) rfl (by simp[acL]);simp only[exK];exact⟨h',q1⟩)
 simp(disch:=try exact af)[dF];exact hl
theorem Bb(k:Nat):kV k∈tc:=by simp[kV,tc,Yz]
theorem Vy:∀l∈tc,pcB l=0∧l.Nodup∧0<l.length∧l.length<=4∧∀x∈l,x∈c6P:=by trivial
abbrev Rw:=LiQ
theorem Se(hx:x.length<1000000000)(hy:y.length<1000000000):CP Y F.p6 [lst di x,lst di y] (B (decide (x=y))):=by refine Lq ?_;simp(disch:=try exact af)[p6];refine cd (Cm hx hy) ?_;simp(disch:=try exact af)
def qA(c:Int)(m:LLQ):V:=.agg [I c,mat m]
theorem SK{c:Int}{m m':LLQ}(hm:m.length<1000000)(hm':m'.length<1000000)(h2:∀r∈m,r.length<1000000)(h3:∀r∈m',r.length<1000000):
  CP Y F.ku [qA c m,qA c' m'] (B (decide (c=c'∧m=m'))):=by
 refine CG ?_;simp only[ku,qA];have eq:=YM (g:=F.p6) (λx y hx hy=>Se (x:=x) (y:=y) aa aa) hm hm' h2 h3;by_cases e:c=c'
 .simp(disch:=try exact af)[e];refine cd eq ?_ (by simp[aO,cF,mat,lst,norm]);exact iq (by simp[e])
 .simp(disch:=try exact af)[e]
def OA(n:Int):Bool:=decide (n>1000000000)||decide (n < -1000000000)
theorem RL(n:Int):CP Y F.oU [I n] (B (OA n)):=by
 refine Gt ?_;simp[oU];by_cases h:n>1000000000
 .simp[h]
  grind[iq,OA]
 .simp(disch:=try exact af)[h]
  grind[iq,OA]
def Gr(c:Nat):LLQ->Int
 |[]=>0
 |r::q=>if 12<r.length then 4 else if r.length≠c then 5 else if r.any OA=true then 4 else Gr c q
def tcB(m:LLQ):Int:=if 12<m.length then 4 else Gr (nth [] m 0).length m
theorem Hl{m:LLQ}(hm:m.length<1000000)(hr:∀r∈m,r.length<1000000)(K:KL):∀(q a:LLQ),m=a++q->(Gr (nth [] m 0).length q=0->K (.exit 0) [] [])->(Gr (nth [] m 0).length q≠0->K .ret [I (Gr (nth [] m 0).length q)] []) ->
  lp (po (CX Y) (mat m) (mat m) (I m.length)) [] [] [I a.length] [] K
 | [],a,e,h0,h1=>by
  simp only[Zn]at e;subst e;refine ai ?_;have hlt:¬((m.length:Int)<(m.length:Int)):=aa;simp only[po];simp[hlt];exact h0 rfl
 | r::q,a,e,h0,h1=>by
  refine ai ?_;have hlt:((a.length:Int)<(m.length:Int)):=by rw[e];simp;omega
  have hl:a.length<m.length:=aa;have hrm:r∈m:=by rw[e];simp
  have i1:ixV [] 1 (mat m) (I a.length)=some (.dptr (m.map row) a.length):=by rw[e];exact wR row a r q _ _
  have i2:ld1 [] (.dptr (m.map row) a.length)=some (lst di r):=by
   rw[mH row m _ hl];simp only[e,Zh (Z8 _),Za,Zd];rfl
  have j1:ixV [] 1 (mat m) (.d (.int .i64 0))=some (.dptr (m.map row) 0):=eY row m [] rfl aa;have j2:ld1 [] (.dptr (m.map row) 0)=some (lst di (nth [] m 0)):=eX row [] m [] aa;simp only[po];simp only[Gr]at h0 h1;by_cases g1:12<r.length
  .have g1':((r.length:Int)>12):=aa;rw[if_pos g1]at h0 h1;simp[hlt,i1,i2,g1']
   grind
  .have g1':¬((r.length:Int)>12):=aa;rw[if_neg g1]at h0 h1;by_cases g2:r.length≠(nth [] m 0).length
   .have g2':(r.length:Int)≠((nth [] m 0).length:Int):=aa;rw[if_pos g2]at h0 h1;simp[hlt,i1,i2,g1',j1,j2,g2']
    grind
   .have g2':(r.length:Int)=((nth [] m 0).length:Int):=aa;rw[if_neg g2]at h0 h1;simp(disch:=try exact af)[hlt,i1,i2,g1',j1,j2,g2'];refine cd (w7 r aa λx _=>RL x) ?_;by_cases g3:r.any OA=true
    .rw[if_pos g3]at h0 h1;simp[g3]
     grind
    .rw[if_neg g3]at h0 h1;have g3':r.any OA=false:=by simpa using g3
     simp(disch:=try exact af)[g3'];have ih:=Hl hm hr K q (a++[r]) (by simp[e]) h0 h1;have e2:((a++[r]).length:Int)=(a.length:Int)+1:=ac
     simp_all
theorem RP{m:LLQ}(hm:m.length<1000000)(hr:∀r∈m,r.length<1000000):CP Y F.oV [mat m] (I (tcB m)):=by
 refine Gu ?_;simp only[oV];have l1:aN (mat m)=some (I m.length):=rfl;by_cases g:12<m.length
 .have g':((m.length:Int)>12):=aa;simp[l1,g']
  grind[aW,tcB]
 .have g':¬((m.length:Int)>12):=aa;simp[l1,g'];refine lo (Hl hm hr _ m [] rfl (λe=>?_) (λe=>?_))
  .simp
   grind[aW,tcB]
  .simp
   grind[aW,tcB]
theorem XO(n:Int):CP Y F.ju [I n] (B (n !=0)):=by
 refine yH ?_;simp[ju]
 grind[iq]
theorem abT(hr:r.length<4611686018427387904):CP Y F.mB [lst di r] (I (piv r)):=by refine CK ?_;simp[mB];refine cd (Cj r hr λn _=>XO n) ?_;exact aW rfl
theorem C3{g:FuncId}{cs:LwQ}{p:LiQ->Bool}(hs:∀x:LiQ,aO [] ([lst di x]++cs)=some ([lst di x]++cs,[]))(hc:aO [] cs=some (cs,[]))(l:LLQ)(hN:l.length<1000000)(hp:∀x∈l,CP Y g ([lst di x]++cs) (B (p x))):
  CP Y F.aR [mat l,.fn g [] cs] (B (l.any p)):=by
 refine mF ?_;simp[aR];refine cd (v:=I (idx p l)) (nD (JJ (f:=row) (fs:=[]) (cs:=cs) l aa hs hp)) ?_ ?_
 .simp;have:=Dv p l;have e:decide (0<=idx p l)=l.any p:=by rw[X5];simpa using this
  simp_all
 simp_all[aO,cF]
def upF(p:Nat)(r o:LiQ):Bool:=decide (nth 0 o p<0)||decide (nth 0 o p≥nth 0 r p)
theorem adJ{p:Nat}{o:LiQ}(hr:p<r.length)(ho:p<o.length):CP Y F.eT [lst di o,.dptr [.int .i64 p] 0,.dptr [row r] 0] (B (upF p r o)):=by
 refine xT ?_;simp only[eT];have d1:∀h:Hp,ld1 h (.dptr [.int .i64 (p:Int)] 0)=some (I p):=λh=>rfl
 have d2:∀h:Hp,ld1 h (.dptr [row r] 0)=some (lst di r):=λh=>rfl
 have i1:ixV [] 1 (lst di o) (I p)=some (.dptr (o.map di) p):=eY di o [] rfl ho;have i2:ld1 [] (.dptr (o.map di) p)=some (I (nth 0 o p)):=eX di 0 o [] ho;have i3:ixV [] 1 (lst di r) (I p)=some (.dptr (r.map di) p):=eY di r [] rfl hr;have i4:ld1 [] (.dptr (r.map di) p)=some (I (nth 0 r p)):=eX di 0 r [] hr;by_cases h:nth 0 o p<0
 .simp[d1,d2,i1,i2,i3,i4,h]
  grind[iq,upF]
 .simp[d1,d2,i1,i2,i3,i4,h]
  grind[iq,upF]
def JL:Int->LLQ->LLQ->Bool
 |_,_,[]=>true
 |before,done,r::q=>if piv r<=before∨nth 0 r (piv r).toNat<0 then false else if done.any (upF (piv r).toNat r)=true then false else JL (piv r) (done++[r]) q
theorem Fv{m:LLQ}{c:Nat}(hm:m.length<1000000)(hc:c<1000000)(hr:∀r∈m,r.length=c)(K:KL):∀(q a:LLQ)(b:Int),-1<=b->m=a++q->(JL b a q=true->∀h,K (.exit 0) [] h)->(JL b a q=false->∀h,K .ret [B false] h) ->
  lp (mU (CX Y) (mat m) (mat m) (I m.length)) [0,1] [nnQ,nnQ] [I b,I a.length] [nnQ,nnQ] K
 | [],a,b,hb,e,h0,h1=>by
  simp only[Zn]at e;subst e;refine ai ?_;have hlt:¬((m.length:Int)<(m.length:Int)):=aa;simp only[mU];simp[hlt];exact h0 rfl _
 | r::q,a,b,hb,e,h0,h1=>by
  refine ai ?_;have hlt:((a.length:Int)<(m.length:Int)):=by rw[e];simp;omega
  have hl:a.length<m.length:=aa;have hrm:r∈m:=by rw[e];simp
  have hrl:r.length=c:=hr r hrm;have i1:∀h:Hp,ixV h 1 (mat m) (I a.length)=some (.dptr (m.map row) a.length):=λh=>by simp_all
  have i2:∀h:Hp,ld1 h (.dptr (m.map row) a.length)=some (lst di r):=λh=>by
   rw[mH row m _ hl];simp only[e,Zh (Z8 _),Za,Zd];rfl
  have hp:=aea r;simp only[mU];have s1:st [(1,Bk.vars [V.d nPQ]),(0,Bk.none)] 1 (V.ptr 0 1 0 1) (lst di r)=some [(1,.vars [lst di r]),nnQ]:=by simp[st,sto,ax,b6,okV,lst]
  have g1:∀x:Nat×Bk,ld1 [(1,.vars [lst di r]),x] (V.ptr 0 1 0 1)=some (lst di r):=λx=>by rfl
  simp[hlt,i1,i2,s1,g1];refine cd (abT (r:=r) aa) ?_;have s2:∀z:Int,st [(1,.vars [lst di r]),(1,Bk.vars [V.d (D.int .i64 0)])] 1 (V.ptr 1 1 0 1) (I z)=some [(1,.vars [lst di r]),(1,.vars [I z])]:=λz=>by rfl
  have g2:∀(z:Int)(x:Nat×Bk),ld1 [x,(1,.vars [I z])] (V.ptr 1 1 0 1)=some (I z):=λz x=>by rfl
  simp only[JL]at h0 h1;simp[s2,g2];by_cases c1:piv r<=b
  .rw[if_pos (.inl c1)]at h0 h1;simp[c1,s2,g2]
   grind
  .obtain⟨p,hpp⟩:∃p:Nat,piv r=p:=⟨(piv r).toNat,aa⟩;have hpr:p<r.length:=aa;rw[hpp]at h0 h1 c1 ⊢;rw[Int.toNat_natCast]at h0 h1;have i3:∀h:Hp,ixV h 1 (lst di r) (I p)=some (.dptr (r.map di) p):=λh=>eY di r h rfl hpr
   have i4:∀h:Hp,ld1 h (.dptr (r.map di) p)=some (I (nth 0 r p)):=λh=>eX di 0 r h hpr
   by_cases c2:nth 0 r p<0
   .rw[if_pos (.inr c2)]at h0 h1;simp(disch:=try exact af)[c1,c2,s2,g2,g1,i3,i4]
    grind
   .rw[if_neg (by simp only[not_or];exact⟨c1,c2⟩)]at h0 h1
    have sl:∀h:Hp,slV h 1 (mat m) none (some (I a.length))=some (mat a):=λh=>by
     have:=ac8 row m (h:=h) (i:=a.length) (j:=a.length) aa rfl aa
     grind
    simp(disch:=try exact af)[c1,c2,s2,g2,g1,i3,i4,sl];have hct:=C3 (g:=F.eT) (cs:=[.dptr [.int .i64 p] 0,.dptr [row r] 0]) (p:=upF p r) (λx=>by rfl) (by rfl) a aa λo ho=>adJ hpr (by grind)
    refine qP (ds:=[mat a,.fn F.eT [] [.dptr [.int .i64 p] 0,.dptr [row r] 0]]) (h':=[(1,Bk.data 1 [row r] false true),(1,Bk.data 1 [.int .i64 p] false true)]) ?_ hct ?_
    .rfl
    .rw[show(if cI (B (a.any (upF p r)))=true then[(1,Bk.vars [lst di r]),(1,Bk.vars [I (p:Int)])]else[(1,Bk.data 1 [row r] false true),(1,Bk.data 1 [.int .i64 p] false true)])=[(1,Bk.vars [lst di r]),(1,Bk.vars [I (p:Int)])]from rfl];by_cases c3:a.any (upF p r)=true
     .rw[if_pos c3]at h0 h1;simp[c3]
      grind
     .rw[if_neg c3]at h0 h1;have c3':a.any (upF p r)=false:=by simpa using c3
      have ih:=Fv hm hc hr K q (a++[r]) p aa (by simp[e]) h0 h1;have e2:((a++[r]).length:Int)=(a.length:Int)+1:=ac;rw[e2]at ih;simp(disch:=try exact af)[c3',g2];trivial
theorem KU{c:Nat}:∀{m:LLQ},Gr c m=0->∀r∈m,r.length=c∧r.length<=12
 |[],_,r,hr=>by simp at hr
 | x::m,h,r,hr=>by
  simp only[Gr]at h;split at h
  .omega
  .split at h
   .omega
   .split at h
    .omega
    .rename_i a1 a2 _;rcases Zy.1 hr with rfl|hr
     .exact⟨aa,aa⟩
     .exact KU h r hr
theorem P7(b:Bool)(z:Int)(h:Hp):out (.tup [B b,I z]) (.tup [B b,I z]) h:=⟨h,by rfl⟩
def hfB(m:LLQ):Bool:=decide (tcB m=0)&&JL (-1) [] m
theorem Ox{m:LLQ}(hm:m.length<1000000)(hr:∀r∈m,r.length<1000000):CP Y F.k9 [mat m] (.tup [B (hfB m),I (tcB m)]):=by
 refine BD ?_;simp only[k9];simp;refine cd (RP hm hr) ?_ (by rfl);by_cases h:tcB m=0
 .have h12:¬12<m.length:=λg=>by grind[tcB]
  have hl:=h;simp only[tcB,if_neg h12]at hl;have hc:=KU hl
  have hcl:m≠[]->(nth [] m 0).length<1000000:=λe=>by
   grind[W5,cC]
  have hfo:CP Y F.k8 [mat m] (B (JL (-1) [] m)):=by
   refine BC ?_;simp only[k8];have l1:aN (mat m)=some (I m.length):=rfl;simp[l1];by_cases e:m=[]
   .subst e;refine lo (Fv (c:=0) hm aa ac _ [] [] (-1) aa rfl (λe h=>?_) (λe h=>?_))
    .simp
     simp_all
    .cases e
   .refine lo (Fv hm (hcl e) (λr hr=>(hc r hr).1) _ m [] (-1) aa rfl (λe h=>?_) (λe h=>?_))
    .simp
     simp_all
    .simp
     simp_all
  simp[h];refine cd hfo ?_ (by rfl);have e:hfB m=JL (-1) [] m:=by simp[hfB,h]
  grind[P7]
 .simp[h];have e:hfB m=false:=by simp[hfB,h]
  grind[P7]
def GH(c:Int)(m:LLQ):Int:=if lcB c m≠0 then lcB c m else if hfB m=true then 0 else 7
theorem Bz{c:Int}{m:LLQ}(hm:m.length<1000000)(hr:∀r∈m,r.length<1000000):CP Y F.jf [qA c m] (I (GH c m)):=by
 refine CH ?_;simp only[jf,qA];simp;refine cd (H6 hm hr) ?_ (by rfl);by_cases h:lcB c m=0
 .simp[h];refine cd (Ox hm hr) ?_ (by rfl);by_cases h2:tcB m=0
  .by_cases h3:hfB m=true
   .simp[h2,h3]
    grind[aW,GH]
   .have h3':hfB m=false:=by simpa using h3
    simp[h2,h3']
    grind[aW,GH]
  .have h3':hfB m=false:=by simp[hfB,h2]
   simp[h2,h3']
   grind[aW,GH]
 .simp[h]
  grind[aW,GH]
def Bo(n:Int)(p:Mz):Hp:=[(1,.vars [I 0,nlV]),(1,.vars [I n,(acU 2).v p.length (p.map row)]),(acU 2).b p.length (p.map row)]
theorem V1{m:Mz}{n:Int}(hm:m.length<1000)(hr:∀r∈m,r.length<1000000)(hz:∀r∈m,∀z∈r,-1000000000<=z∧z<=1000000000)(h0:Hp)(K:KL):∀(q p:Mz),m=p++q->K (.exit 0) [] (Bo n m) ->
  lp (iV (CX Y) (.ptr 0 1 0 2) (.ptr 1 1 0 2) (uH m) (I m.length)) [] h0 [I p.length] (Bo n p) K
 | [],p,e,hK=>by
  simp only[Zn]at e;subst e;refine ai ?_;have hlt:¬((m.length:Int)<(m.length:Int)):=aa;simp only[iV];simp[hlt];exact hK
 | r::q,p,e,hK=>by
  refine ai ?_;have hlt:((p.length:Int)<(m.length:Int)):=by rw[e];simp;omega
  have hrm:r∈m:=by rw[e];simp
  have hpl:p.length<m.length:=aa;obtain⟨H,hH⟩:=nmQ (Bo n p);have i1:ixV H 1 (uH m) (I p.length)=some (.dptr (m.map tg) p.length):=by rw[e];exact QA p r q H
  have i2:ld1 H (.dptr (m.map tg) p.length)=some (lst sI r):=by rw[e];exact Qw p r q H
  rw[<-hH];simp only[iV];simp[hlt,i1,i2];refine cd (SF (hz r hrm) (hr r hrm)) ?_;have f1:ld1 H (.ptr 1 1 1 2)=some ((acU 2).v p.length (p.map row)):=by rw[hH];simp[ld1,Bo,ax]
  have hli:fJ 1 [nPQ] [(0,lst di r)] H=some ([row r],H):=by simp[fJ,iS,kP,toD,norm,lst,row]
  simp[f1,hli];refine nU (acU 2) (by_:=24) (k:=1) (cs:=[row r]) aa (by rw[hH];rfl) (by simp[acU]) (by rfl) rfl (by grind) aa (by simp[acU]) ?_;have hs:H.set (acU 2).s ((acU 2).b (p.length+1) (p.map row++[row r]))=[(1,.vars [I 0,nlV]),(1,.vars [I n,(acU 2).v p.length (p.map row)]),(acU 2).b (p.length+1) (p.map row++[row r])]:=by rw[hH];rfl
  have hst:st [(1,.vars [I 0,nlV]),(1,.vars [I n,(acU 2).v p.length (p.map row)]),(acU 2).b (p.length+1) (p.map row++[row r])] 1 (.ptr 1 1 1 2) ((acU 2).v (p.length+1) (p.map row++[row r]))=some (Bo n (p++[r])):=by
   simp[st,sto,ax,b6,okV,Bo,Acc.v,Acc.b]
  have ih:=V1 hm hr hz h0 K q (p++[r]) (by simp[e]) hK;have e2:((p++[r]).length:Int)=(p.length:Int)+1:=ac;rw[e2]at ih;rw[hs];simp only[Acc.v,Acc.b]at hst ⊢;simp(disch:=try exact af)[hst]
  simp_all[dN,Bo]
theorem yA{n:Int}(hm:m.length<1000)(hr:∀r∈m,r.length<1000000)(hz:∀r∈m,∀z∈r,-1000000000<=z∧z<=1000000000):CP Y F.dw [uH m,I n] (.tup [qA n m,I 0]):=by
 refine vw ?_;simp only[dw];have l1:aN (uH m)=some (I m.length):=rfl;simp[l1];refine lo (V1 hm hr hz _ _ m [] rfl ?_);have g1:ldA (Bo n m) 2 (.ptr 1 1 0 2)=some (.agg [I n,(acU 2).v m.length (m.map row)]):=by simp[ldA,Bo,ax]
 have okv:okV ((acU 2).v m.length (m.map row))=true:=by cases m<;>rfl
 have s1:st (Bo n m) 2 (.ptr 0 1 0 2) (.agg [I n,(acU 2).v m.length (m.map row)])=some [(1,.vars [I n,(acU 2).v m.length (m.map row)]),(1,.vars [I n,(acU 2).v m.length (m.map row)]),(acU 2).b m.length (m.map row)]:=by
  simp[st,sto,Bo,ax,b6,okv]
 have g2:ldA [(1,.vars [I n,(acU 2).v m.length (m.map row)]),(1,.vars [I n,(acU 2).v m.length (m.map row)]),(acU 2).b m.length (m.map row)] 2 (.ptr 0 1 0 2)=some (.agg [I n,(acU 2).v m.length (m.map row)]):=by simp[ldA,ax]
 show(bnd (ldA (Bo n m) 2 (.ptr 1 1 0 2)) λv7=>stD (Bo n m) 2 (.ptr 0 1 0 2) v7 λx h=>bnd (ldA h 2 (.ptr 0 1 0 2)) λv9=>out (.tup [qA n m,I 0]) (.tup [v9,.d (.int .i64 0)]) h)
 simp only[g1,bnd,stD,s1,g2];obtain⟨h',e1,_⟩:=nC (acU 2) (L:=m.length) (cells:=m.map row) (h:=[(1,.vars [I n,(acU 2).v m.length (m.map row)]),(1,.vars [I n,(acU 2).v m.length (m.map row)]),(acU 2).b m.length (m.map row)]) rfl (by simp[acU]);refine⟨h',?_⟩
 simp_all[cF,aO,qA,lst]
structure sE(n:Nat)(m:Mz):Prop where
 n0:0<n
 n12:n<=12
 ml:m.length<=12
 rl:∀r∈m,r.length=n
 sm:∀r∈m,∀z∈r,-1000000000<=z∧z<=1000000000
theorem Qy{z:Mz}(hB:Bd<=100000)(hl:GH n m=0)(ho:sE n m)(hk:uO Bd f n m=some z)(hz:sE n z):CP Y F.eJ [qA n m] (.tup [qA n z,I 0]):=by
 refine vC ?_;simp only[eJ,qA];simp;have hrl:∀r∈m,r.length<1000000:=λr hr=>by rw[ho.rl r hr];have:=ho.n12;omega
 have hml:=ho.ml;have hn:=ho.n12;refine cd (args:=[qA n m]) (Bz aa hrl) ?_ (by rfl);have c1:=EZ (m:=m) ho.ml hrl (λr hr z hz=>by have:=ho.sm r hr z hz;omega);have c2:=BA (m:=m) (n:=n) ho.n0 aa ho.rl aa hB hk;have c3:=yA (m:=z) (n:=n) (by grind[sE.ml]) (λr hr=>by grind[sE.rl]) hz.sm;simp[hl];refine cd c1 ?_ (by rfl);simp
 refine cd c2 ?_ (by rfl);simp;refine cd c3 ?_ (by rfl);have ok1:okV (mat z)=true:=rfl;simp[qA,ok1];exact⟨_,by rfl⟩
theorem Qn{y z:Mz}(hB:Bd<=100000)(hl:GH n m=0)(ho:sE n m)(hk:uO Bd f n m=some y)(hy:∀r∈y,r.length=n)(hyl:y.length<1000)(hk2:uO Bd f n y=some z)(hz:sE n z):CP Y F.gL [qA n m] (.tup [qA n z,I 0]):=by
 refine yB ?_;simp only[gL,qA];simp;have hrl:∀r∈m,r.length<1000000:=λr hr=>by rw[ho.rl r hr];have:=ho.n12;omega
 have hml:=ho.ml;have hn:=ho.n12;refine cd (args:=[qA n m]) (Bz aa hrl) ?_ (by rfl);have c1:=EZ (m:=m) ho.ml hrl (λr hr z hz=>by have:=ho.sm r hr z hz;omega);have c2:=BA (m:=m) (n:=n) ho.n0 aa ho.rl aa hB hk;have c4:=BA (m:=y) (n:=n) ho.n0 aa hy hyl hB hk2
 have c3:=yA (m:=z) (n:=n) (by grind[sE.ml]) (λr hr=>by grind[sE.rl]) hz.sm;simp[hl];refine cd c1 ?_ (by rfl);simp;refine cd c2 ?_ (by rfl);simp;refine cd c4 ?_ (by rfl);simp;refine cd c3 ?_ (by rfl);have ok1:okV (mat z)=true:=rfl;simp[qA,ok1];exact⟨_,by rfl⟩
theorem aiS{o:Option V}{v:V}{k:V->Prop}(h:o=some v)(hk:k v):bnd o k:=by simp_all
def tpV(p:LiQ)(c w:Mz):V:=.agg [lst di p,mat c,mat w]
structure pP(p:LiQ)(c w:Mz):Prop where
 pr:pcB p=0
 lc:sE p.length c
 lw:sE p.length w
 ch:GH p.length c=0
 k1:∃B f,B<=100000∧uO B f p.length c=some w∧uO B f p.length w=some c
theorem RE(x y:LiQ)(hx:x.length<1000000)(hy:y.length<1000000):CP Y F.eB [.d (row x),.d (row y)] (B (decide (x=y))):=by refine vk ?_;simp only[eB];simp;refine cd (args:=[lst di x,lst di y]) (Cm aa aa) ?_ (by rfl);simp
theorem TU(hm:m.length<1000000)(hm':m'.length<1000000)(h2:∀r∈m,r.length<1000000)(h3:∀r∈m',r.length<1000000):CP Y F.jk [mat m,mat m'] (B (decide (m=m'))):=by refine ye ?_;simp only[jk];simp;refine cd (YM (g:=F.eB) RE hm hm' h2 h3) ?_ (by rfl);simp
theorem sE.rl6(h:sE n m):∀r∈m,r.length<1000000:=λr hr=>by rw[h.rl r hr];have:=h.n12;omega
theorem KO{p:LiQ}{c w w':Mz}(h:pP p c w)(h1:w'.length<1000000)(h2:∀r∈w',r.length<1000000):CP Y F.eM [tpV p c w'] (I (if w=w' then 0 else 14)):=by
 refine xG ?_;simp only[eM,tpV];have hn:=h.lc.n12;have hcl:=h.lc.ml;have hwl:=h.lw.ml;have a1:=mz (p:=p) aa;rw[h.pr]at a1;have a2:=Bz (c:=p.length) (m:=c) aa h.lc.rl6;rw[h.ch]at a2;obtain⟨Bd,f,hB,k1,k2⟩:=h.k1;have a3:=Qn hB h.ch h.lc k1 h.lw.rl aa k2 h.lc;have a4:=Qy hB h.ch h.lc k1 h.lw
 have a5:CP Y F.ku [qA p.length c,qA p.length c] (B true):=by
  have:=SK (c:=p.length) (c':=p.length) (m:=c) (m':=c) aa aa h.lc.rl6 h.lc.rl6;simpa using this
 have a6:=TU (m:=w) (m':=w') aa h1 h.lw.rl6 h2;have l1:aN (lst di p)=some (I p.length):=rfl;simp;refine cd a1 ?_;have ok1:∀m:Mz,okV (lst row m)=true:=λ_=>rfl
 simp only[qA,mat]at a2 a3 a4 a5 a6;simp[l1,ok1];refine cd a2 ?_ (by rfl);simp;refine cd a3 ?_ (by rfl);simp[ok1];refine cd a5 ?_ (by rfl);simp;refine cd a4 ?_ (by rfl);simp[ok1];refine cd (args:=[lst row w,lst row w']) a6 ?_ (by rfl);by_cases e:w=w'<;>simp[e]
theorem D6{p:LiQ}{c w:Mz}(h:pP p c w):CP Y F.eM [tpV p c w] (I 0):=by simpa using KO h (by have:=h.lw.ml;omega) h.lw.rl6
def tbB(n:Nat):Mz->Int
 |[]=>0
 |r::q=>if rcB r≠0 then rcB r else if r.length≠n then 5 else tbB n q
variable{p:LiQ}{c w:Mz}
theorem Hn{m:Mz}(hm:m.length<1000000)(hr:∀r∈m,r.length<1000000)(e:Nat)(h0:Hp)(K:KL):∀(q a:Mz),m=a++q->(tbB p.length q=0->K (.exit 0) [] [(e,.vars [lst di p,mat c,mat w])])->(tbB p.length q≠0->K .ret [I (tbB p.length q)] [(e,.vars [lst di p,mat c,mat w])]) ->
  lp (jR (CX Y) (.ptr 0 e 0 3) (mat m) (I m.length)) [] h0 [I a.length] [(e,.vars [lst di p,mat c,mat w])] K
 | [],a,e1,h1,h2=>by
  simp only[Zn]at e1;subst e1;refine ai ?_;have hlt:¬((m.length:Int)<(m.length:Int)):=aa;simp only[jR];simp[hlt];exact h1 rfl
 | r::q,a,e1,h1,h2=>by
  refine ai ?_;have hlt:((a.length:Int)<(m.length:Int)):=by rw[e1];simp;omega
  have hl:a.length<m.length:=aa;have i1:∀h:Hp,ixV h 1 (mat m) (I a.length)=some (.dptr (m.map row) a.length):=λh=>by simp_all
  have i2:∀h:Hp,ld1 h (.dptr (m.map row) a.length)=some (lst di r):=λh=>by
   rw[mH row m _ hl];simp only[e1,Zh (Z8 _),Za,Zd];rfl
  have l1:aN (lst di r)=some (I r.length):=rfl;have l2:aN (lst di p)=some (I p.length):=rfl;have g1:ld1 [(e,.vars [lst di p,mat c,mat w])] (.ptr 0 e 0 3)=some (lst di p):=by simp[ld1,ax]
  simp only[jR];simp[hlt,i1,i2];refine cd (PV (by grind)) ?_;simp only[tbB]at h1 h2;by_cases c1:rcB r=0
  .rw[if_neg (by simp[c1])]at h1 h2;by_cases c2:r.length=p.length
   .rw[if_neg (by simp[c2])]at h1 h2;have c2':(r.length:Int)=(p.length:Int):=aa;simp(disch:=try exact af)[c1,l1,l2,g1,c2'];rw[dN];have ih:=Hn hm hr e h0 K q (a++[r]) (by grind) h1 h2
    simp_all
   .rw[if_pos c2]at h1 h2;have c2':¬(r.length:Int)=(p.length:Int):=aa;simp[c1,l1,l2,g1,c2']
    grind
  .rw[if_pos c1]at h1 h2;simp[c1]
   grind
theorem RQ(h:pP p c w)(hm:m.length<1000000)(hr:∀r∈m,r.length<1000000):CP Y F.ij [tpV p c w,mat m] (I (tbB p.length m)):=by
 refine xF ?_;simp only[ij,tpV];simp;refine cd (args:=[tpV p c w]) (D6 h) ?_ (by rfl);have l1:aN (mat m)=some (I m.length):=rfl;simp[l1];refine lo (Hn hm hr 1 _ _ m [] rfl (λe=>?_) (λe=>?_))
 .simp
  simp_all
 .simp
def oh:LiQ->LiQ->Int
 |x::xs,y::ys=>x*y+oh xs ys
 |_,_=>0
def bd9(l:LiQ):Prop:=∀x∈l,-1000000000<=x∧x<=1000000000
theorem JV:∀{x v:LiQ},bd9 x->bd9 v->(oh x v).natAbs<=1000000000000000000*x.length
 |[],v,_,_=>by simp[oh]
 |a::x,[],_,_=>by simp[oh]
 | a::x,b::v,hx,hv=>by
  have ih:=JV (x:=x) (v:=v) (λy hy=>hx y (by grind)) (λy hy=>hv y (by grind));have h1:=hx a ac;have h2:=hv b ac
  have h3:(a*b).natAbs<=1000000000*1000000000:=by
   rw[Zm];exact Zu aa aa
  grind[oh]
theorem Hj{x v:LiQ}(hl:v.length=x.length)(hn:x.length<=64)(hx:bd9 x)(hv:bd9 v)(h0 h:Hp)(K:KL):∀(q qv a av:LiQ)(s:Int),x=a++q->v=av++qv->av.length=a.length->s.natAbs<=1000000000000000000*a.length ->
  K (.exit 2) [S (itoa (s+oh q qv))] h ->
  lp (jF (CX Y) (lst di v) (lst di x) (I x.length)) [] h0 [S (itoa s),I a.length] h K
 | [],qv,a,av,s,e1,e2,e3,hs,hK=>by
  simp only[Zn]at e1;subst e1;refine ai ?_;have hlt:¬((x.length:Int)<(x.length:Int)):=aa;simp only[jF];simp[hlt]
  grind[oh]
 | b::q,[],a,av,s,e1,e2,e3,hs,hK=>by
  grind
 | b::q,d::qv,a,av,s,e1,e2,e3,hs,hK=>by
  refine ai ?_;have hlt:((a.length:Int)<(x.length:Int)):=by rw[e1];simp;omega
  have i1:ixV h 1 (lst di x) (I a.length)=some (.dptr (x.map di) a.length):=by rw[e1];exact wR di a b q _ _
  have i2:ld1 h (.dptr (x.map di) a.length)=some (I b):=by
   rw[mH di x _ aa];simp only[e1,Zh (Z8 _),Za,Zd];rfl
  have i3:ixV h 1 (lst di v) (I a.length)=some (.dptr (v.map di) a.length):=by rw[e2,<-e3];exact wR di av d qv _ _
  have i4:ld1 h (.dptr (v.map di) a.length)=some (I d):=by
   rw[mH di v _ aa];simp only[e2,<-e3,Zh (Z8 _),Za,Zd];rfl
  have hb:=hx b (by grind);have hd:=hv d (by grind);have n18:∀z:Int,z.natAbs<10^30->ndg z.natAbs<400000:=λz hz=>Ze (dG hz ae) ae
  have h3:(b*d).natAbs<=1000000000*1000000000:=by
   rw[Zm];exact Zu aa aa
  simp only[jF];simp[hlt,i1,i2];refine cd (kX (z:=b) aa aa) ?_;simp[i3,i4];refine cd (kX (z:=d) aa aa) ?_;simp;refine cd (oi (z:=b) (w:=d) (n18 _ aa) (n18 _ aa)) ?_;simp;refine cd (tK (z:=s) (w:=b*d) (by have:=n18 s aa;omega) (by have:=n18 (b*d) aa;omega)) ?_
  have ih:=Hj hl hn hx hv h0 h K q qv (a++[b]) (av++[d]) (s+b*d) (by grind) (by grind) (by grind) (by grind) (by
   have:s+b*d+oh q qv=s+oh (b::q) (d::qv):=by simp only[oh];omega
   grind)
  have e4:((a++[b]).length:Int)=(a.length:Int)+1:=ac;rw[e4]at ih;simp(disch:=try exact af)
  grind[dN,lo]
def bh(w:Mz)(x:LiQ):LiQ:=w.map λv=>oh x v
theorem Hk{x:LiQ}{w:Mz}(hw:w.length<1000)(hl:∀v∈w,v.length=x.length)(hn:x.length<=64)(hx:bd9 x)(hv:∀v∈w,bd9 v)(b0:Nat×Bk)(h0:Hp)(K:KL):∀(q a:Mz),w=a++q ->
  K (.exit 0) [(acU 1).v w.length ((bh w x).map sI)] [b0,(acU 1).b w.length ((bh w x).map sI)] ->
  lp (jG (CX Y) (lst di x) (mat w) (I w.length)) [] h0 [(acU 1).v a.length ((bh a x).map sI),I a.length] [b0,(acU 1).b a.length ((bh a x).map sI)] K
 | [],a,e,hK=>by
  simp only[Zn]at e;subst e;refine ai ?_;have hlt:¬((w.length:Int)<(w.length:Int)):=aa;simp only[jG];simp[hlt];exact hK
 | v::q,a,e,hK=>by
  refine ai ?_;have hlt:((a.length:Int)<(w.length:Int)):=by rw[e];simp;omega
  have hal:a.length<w.length:=aa;have hvm:v∈w:=by rw[e];simp
  have i1:∀h:Hp,ixV h 1 (mat w) (I a.length)=some (.dptr (w.map row) a.length):=λh=>by simp_all
  have i2:∀h:Hp,ld1 h (.dptr (w.map row) a.length)=some (lst di v):=λh=>by
   rw[mH row w _ hal];simp only[e,Zh (Z8 _),Za,Zd];rfl
  have l1:aN (lst di x)=some (I x.length):=rfl;obtain⟨H,hH⟩:∃H:Hp,H=[b0,(acU 1).b a.length ((bh a x).map sI)]:=⟨_,rfl⟩;rw[<-hH];simp only[jG];simp[hlt,i1,i2,l1]
  have e48:V.d (D.str [48])=S (itoa 0):=by
   have:itoa 0=[48]:=aG;rw[this]
  rw[e48];refine lo (Hj (hl v hvm) hn hx (hv v hvm) _ H _ x v [] [] 0 rfl rfl rfl ac ?_);have hli:fJ 1 [.str []] [(0,S (itoa (oh x v)))] H=some ([sI (oh x v)],H):=by simp[fJ,iS,kP,toD,norm,sI]
  simp[hli];have ez:bh (a++[v]) x=bh a x++[oh x v]:=by simp[bh]
  refine nU (acU 1) (by_:=16) (k:=1) (cs:=[sI (oh x v)]) aa (by rw[hH];rfl) (by simp[acU,bh]) (by rfl) rfl (by grind) aa (by simp[acU]) ?_;have hs:H.set (acU 1).s ((acU 1).b (a.length+1) ((bh a x).map sI++[sI (oh x v)]))=[b0,(acU 1).b (a.length+1) ((bh a x).map sI++[sI (oh x v)])]:=by rw[hH];rfl
  rw[hs];have ih:=Hk hw hl hn hx hv b0 h0 K q (a++[v]) (by simp[e]) hK;have e4:((a++[v]).length:Int)=(a.length:Int)+1:=ac;rw[e4,ez,Xz,Zq]at ih;simp(disch:=try exact af)
  simp_all[dN]
theorem RO(h:pP p c w)(hl:x.length=p.length)(hx:bd9 x):CP Y F.gF [tpV p c w,lst di x] (lst sI (bh w x)):=by
 refine wd ?_;simp only[gF,tpV];have l1:aN (mat w)=some (I w.length):=rfl;have hn:=h.lc.n12;have hwl:=h.lw.ml;simp[l1];refine lo (Hk aa (λv hv=>by rw[h.lw.rl v hv,hl]) aa hx (λv hv=>h.lw.sm v hv) _ _ _ w [] rfl ?_);simp
 obtain⟨h',e1,_⟩:=nC (acU 1) (L:=w.length) (cells:=(bh w x).map sI) (h:=[(1,.vars [lst di p,mat c,mat w]),(acU 1).b w.length ((bh w x).map sI)]) rfl (by simp[acU,bh]);refine⟨h',?_⟩
 grind[lst,bh]
theorem IC{l:LiQ}(hn:l.length<1000)(hz:bd9 l)(b0:Nat×Bk)(h0:Hp)(K:KL):∀(q a:LiQ),l=a++q->K (.exit 0) [(acU 1).v l.length (l.map di)] [b0,(acU 1).b l.length (l.map di)] ->
  lp (jH (CX Y) (lst sI l) (I l.length)) [] h0 [(acU 1).v a.length (a.map di),I a.length] [b0,(acU 1).b a.length (a.map di)] K
 | [],a,e,hK=>by
  simp only[Zn]at e;subst e;refine ai ?_;have hlt:¬((l.length:Int)<(l.length:Int)):=aa;simp only[jH];simp[hlt];exact hK
 | z::q,a,e,hK=>by
  refine ai ?_;have hlt:((a.length:Int)<(l.length:Int)):=by rw[e];simp;omega
  have hzb:=hz z (by grind);have i1:∀h:Hp,ixV h 1 (lst sI l) (I a.length)=some (.dptr (l.map sI) a.length):=λh=>by simp_all
  have i2:∀h:Hp,ld1 h (.dptr (l.map sI) a.length)=some (S (itoa z)):=λh=>by
   grind[mH,sI]
  obtain⟨H,hH⟩:∃H:Hp,H=[b0,(acU 1).b a.length (a.map di)]:=⟨_,rfl⟩;rw[<-hH];have g1:¬(z>1000000000):=aa;have g2:¬(z < -1000000000):=aa;have hli:fJ 1 [.int .i64 0] [(0,I z)] H=some ([di z],H):=by simp[fJ,iS,kP,toD,norm];rfl
  simp only[jH];simp[hlt,i1,i2];refine cd (AT (z:=z) aa) ?_;simp[g1,g2,hli];refine nU (acU 1) (by_:=8) (k:=1) (cs:=[di z]) aa (by rw[hH];rfl) (by simp[acU]) (by rfl) rfl (by grind) aa (by simp[acU]) ?_;have hs:H.set (acU 1).s ((acU 1).b (a.length+1) (a.map di++[di z]))=[b0,(acU 1).b (a.length+1) (a.map di++[di z])]:=by rw[hH];rfl
  rw[hs];have ih:=IC hn hz b0 h0 K q (a++[z]) (by simp[e]) hK;have e4:((a++[z]).length:Int)=(a.length:Int)+1:=ac;rw[e4,Xz,Zq]at ih;simp(disch:=try exact af)
  simp_all[dN]
theorem IB(h:pP p c w)(hl:x.length=p.length)(hx:bd9 x)(hr:rcB x=0)(hz:bd9 (bh w x)):CP Y F.fj [tpV p c w,lst di x] (.tup [lst di (bh w x),I 0]):=by
 refine we ?_;simp only[fj,tpV];have hn:=h.lc.n12;have hwl:=h.lw.ml;have hli:fJ 1 [nPQ] [(0,lst di x)] [(1,Bk.vars [lst di p,mat c,mat w]),(0,Bk.none)]=some ([row x],[(1,Bk.vars [lst di p,mat c,mat w]),(0,Bk.none)]):=by simp[fJ,iS,kP,toD,norm,lst,row]
 have tb:tbB p.length [x]=0:=by simp[tbB,hr,hl]
 have b1:=RQ h (m:=[x]) ac (by grind);rw[tb]at b1;simp[hli];refine cd (args:=[tpV p c w,mat [x]]) b1 ?_ (by rfl);simp;refine cd (args:=[tpV p c w,lst di x]) (RO h hl hx) ?_ (by rfl);have l1:aN (lst sI (bh w x))=some (I (bh w x).length):=rfl;simp[l1];refine lo (IC (by grind[bh]) hz _ _ _ (bh w x) [] rfl ?_);simp
 obtain⟨h',e1,_⟩:=nC (acU 1) (L:=(bh w x).length) (cells:=(bh w x).map di) (h:=[(1,.vars [lst di p,mat c,mat w]),(acU 1).b (bh w x).length ((bh w x).map di)]) rfl (by simp[acU]);refine⟨h',?_⟩;simp only[cF,aO,e1,norm];rfl
abbrev Lk:=Int×Int
structure Ad where
 p:LiQ
 ch:List LLQ
 lk:List (List Lk)
 cd:List LLQ
 w:Q
variable{a:Ad}
variable{b:Nat}{c:UInt8}{kb:Nat}
theorem EX(z:Int):fM z 1=(z,1):=by simp[fM,lY]
theorem o6{n d:Int}(hd:d≠0)(h1 : -9223372036854775808<n)(h2:n<9223372036854775808)(h3 : -9223372036854775808<d)(h4:d<9223372036854775808):CP Y F.aU [I n,I d] (.agg (qT (fM n d))):=by refine xH ?_;have fo:=wV hd h1 h2 h3 h4;simp only[qT]at fo;simp only[aU];simp;refine cd fo ?_;simp;exact mh rfl rfl
theorem acR{s s' e es by_ n k L:Nat}{cells cs:LdQ}{b0:Bk}{h:Hp}{y:V}{q:kkQ}{u:PU q}(hk:0<k)(hs':h[s']?=some (e,.data n cells true false))(hs:h[s]?=some (es,b0))(hc:cells.length=L*n)
  (hcs:cs.length=k*n) (hy:cellsOf h y=some (k,cs)) (hyn:∀t,y≠.d (.str t)) (hb:(L+k)*by_<=140737488355328)
  (hq:q (.ref s (es+1) 0 (L+k) (L+k) (cells++cs).length) (h.set s (es+1,.data n (cells++cs) false false))):rh (apV false s n by_ (.ref s' e 0 L L cells.length) y h) q u:=by
 have e1:apV false s n by_ (.ref s' e 0 L L cells.length) y h q=apC false s n by_ (.ref s' e 0 L L cells.length) k cs h q:=by
  unfold apV;split
  .trivial
  .grind
 show apV false s n by_ (.ref s' e 0 L L cells.length) y h q
 rw[e1];unfold apC;rw[if_neg aa];have g:ax h s' e=.data n cells true false:=by simp[ax,hs']
 simp only[g,true_and,Zj];rw[if_pos ⟨Z8 _,aa,hcs⟩,if_neg aa,if_pos hb];simp only[if_true,new,hs,Yj];rw[Zx aa]
 grind
def gtB(w:Mz):Int:=if w.length≠2 then 5 else if nth 0 (nth [] w 0) 0=0 then 26 else 0
variable{p:LiQ}{c w:Mz}
theorem QI(h:pP p c w):CP Y F.kA [tpV p c w] (I (gtB w)):=by
 refine CL ?_;simp only[kA,tpV];simp;refine cd (args:=[tpV p c w]) (D6 h) ?_ (by rfl);have l1:aN (mat w)=some (I w.length):=rfl;by_cases h2:w.length=2
 .have i1:∀h:Hp,ixV h 1 (mat w) (.d (.int .i64 0))=some (.dptr (w.map row) 0):=λh=>eY row w h rfl aa
  have i2:∀h:Hp,ld1 h (.dptr (w.map row) 0)=some (lst di (nth [] w 0)):=λh=>eX row [] w h aa
  have hr:(nth [] w 0).length=p.length:=h.lw.rl _ (by rw[cC _ _ _ aa];simp);have hp:=h.lw.n0;have i3:∀h:Hp,ixV h 1 (lst di (nth [] w 0)) (.d (.int .i64 0))=some (.dptr ((nth [] w 0).map di) 0):=λh=>eY di _ h rfl aa
  have i4:∀h:Hp,ld1 h (.dptr ((nth [] w 0).map di) 0)=some (I (nth 0 (nth [] w 0) 0)):=λh=>eX di 0 _ h aa
  have h2':(w.length:Int)=2:=aa;by_cases h0:nth 0 (nth [] w 0) 0=0
  .simp[l1,h2',i1,i2,i3,i4,h0]
   grind[aW,gtB]
  .simp[l1,h2',i1,i2,i3,i4,h0]
   grind[aW,gtB]
 .have h2':¬(w.length:Int)=2:=aa;simp[l1,h2']
  grind[aW,gtB]
theorem My(h0:0<r.length)(hn:r.length<1000000):CP Y F.iJ [lst di r] (lst di r):=by
 refine zV ?_;simp only[iJ];have hli:fJ 0 [.int .i64 0] [] [(0,Bk.none),(0,Bk.none)]=some ([],[(0,Bk.none),(0,Bk.none)]):=rfl;simp[hli];refine acR (s:=1) (s':=0) (e:=1) (es:=0) (by_:=8) (n:=1) (L:=0) (k:=r.length) (cells:=[]) (cs:=r.map di) h0 rfl rfl rfl ac rfl (by intro t ht;cases ht) aa ?_
 have sn:=acX ⟨1,0,1,.none⟩ (L:=r.length) (cells:=r.map di) (h:=[(1,Bk.data 1 [] true false),(Acc.b ⟨1,0,1,.none⟩ r.length (r.map di))]) rfl ac;obtain⟨m,hm⟩:∃m,r.length=m+1:=⟨r.length-1,aa⟩
 simp_all[lst]
theorem XW(h:pP p c w)(hg:gtB w=0):CP Y F.j8 [tpV p c w] (.tup [.agg [I (nth 0 (nth [] w 0) 0),lst di (nth [] w 0),lst di (nth [] w 1)],I 0]):=by
 refine wU ?_;simp only[j8,tpV];simp;have a1:=QI h;rw[hg]at a1
 have h2:w.length=2:=by
  apply Classical.byContradiction;intro e;simp[gtB,e]at hg
 refine cd (args:=[tpV p c w]) a1 ?_ (by rfl);have i1:∀h:Hp,ixV h 1 (mat w) (.d (.int .i64 0))=some (.dptr (w.map row) 0):=λh=>eY row w h rfl aa
 have i2:∀h:Hp,ld1 h (.dptr (w.map row) 0)=some (lst di (nth [] w 0)):=λh=>eX row [] w h aa
 have j1:∀h:Hp,ixV h 1 (mat w) (.d (.int .i64 1))=some (.dptr (w.map row) 1):=λh=>eY row w h rfl aa
 have j2:∀h:Hp,ld1 h (.dptr (w.map row) 1)=some (lst di (nth [] w 1)):=λh=>eX row [] w h aa
 have hr:(nth [] w 0).length=p.length:=h.lw.rl _ (by rw[cC _ _ _ aa];simp);have hr1:(nth [] w 1).length=p.length:=h.lw.rl _ (by rw[cC _ _ _ aa];simp);have hp:=h.lw.n0;have hn:=h.lc.n12;have i3:∀h:Hp,ixV h 1 (lst di (nth [] w 0)) (.d (.int .i64 0))=some (.dptr ((nth [] w 0).map di) 0):=λh=>eY di _ h rfl aa
 have i4:∀h:Hp,ld1 h (.dptr ((nth [] w 0).map di) 0)=some (I (nth 0 (nth [] w 0) 0)):=λh=>eX di 0 _ h aa
 simp[i1,i2,i3,i4];refine cd (My (r:=nth [] w 0) aa aa) ?_;simp[j1,j2];refine cd (My (r:=nth [] w 1) aa aa) ?_;have ok1:∀m:LiQ,okV (lst di m)=true:=λ_=>rfl
 simp[ok1];exact⟨_,rfl⟩
theorem XK{k:LwQ->Hp->Prop}{T:(LwQ->Hp->Prop)->Prop}{u:PU k}{w:PU T}(P:LwQ->Hp->Prop)(hP:∀l h,P l h->k l h)(hT:∀q:LwQ->Hp->Prop,(∀l h,P l h->q l h)->T q):jo k T u w:=hT k hP
structure yU(p:LiQ)(w:Mz)(x:LiQ):Prop where
 l:x.length=p.length
 b:bd9 x
 r:rcB x=0
 t:bd9 (bh w x)
def tpD(w:Mz)(l:Mz):LdQ:=l.map λx=>row (bh w x)
theorem Pj(w l:Mz):(tpD w l).length=l.length:=by simp[tpD]
theorem aaO(w a:Mz)(x:LiQ):tpD w (a++[x])=tpD w a++[row (bh w x)]:=by simp[tpD]
theorem Po(h:pP p c w){l:Mz}(hl:l.length<1000)(ho:∀x∈l,yU p w x)(b1:Nat×Bk)(h0:Hp)(K:KL):∀(q a:Mz),l=a++q ->
  K (.exit 1) [(acU 2).v l.length (tpD w l)] [(1,.vars [lst di p,mat c,mat w]),b1,(acU 2).b l.length (tpD w l)] ->
  lp (jP (CX Y) (.ptr 0 1 0 3) (mat l) (I l.length)) [] h0 [(acU 2).v a.length (tpD w a),I a.length] [(1,.vars [lst di p,mat c,mat w]),b1,(acU 2).b a.length (tpD w a)] K
 | [],a,e,hK=>by
  simp only[Zn]at e;subst e;refine ai ?_;have hlt:¬((l.length:Int)<(l.length:Int)):=aa;simp only[jP];simp[hlt];exact hK
 | x::q,a,e,hK=>by
  refine ai ?_;have hlt:((a.length:Int)<(l.length:Int)):=by rw[e];simp;omega
  have hal:a.length<l.length:=aa;have hx:=ho x (by grind);have i1:∀h:Hp,ixV h 1 (mat l) (I a.length)=some (.dptr (l.map row) a.length):=λh=>by simp_all
  have i2:∀h:Hp,ld1 h (.dptr (l.map row) a.length)=some (lst di x):=λh=>by
   rw[mH row l _ hal];simp only[e,Zh (Z8 _),Za,Zd];rfl
  obtain⟨H,hH⟩:∃H:Hp,H=[(1,.vars [lst di p,mat c,mat w]),b1,(acU 2).b a.length (tpD w a)]:=⟨_,rfl⟩;have g1:nr H 0 1=.vars [lst di p,mat c,mat w]:=by rw[hH];rfl
  have tl:(bh w x).length<1000000:=by simp only[bh,List.length_map];have:=h.lw.ml;omega
  rw[<-hH];have hli:fJ 1 [nPQ] [(0,lst di (bh w x))] H=some ([row (bh w x)],H):=by simp[fJ,iS,kP,toD,norm,lst,row]
  simp only[jP];simp[hlt,i1,i2,g1];refine cd (args:=[tpV p c w,lst di x]) (IB h hx.l hx.b hx.r hx.t) ?_ (by rfl);simp[hli];refine nU (acU 2) (by_:=24) (k:=1) (cs:=[row (bh w x)]) aa (by rw[hH];rfl) (by simp[acU,Pj]) (by rfl) rfl (by grind) aa (by simp[acU]) ?_
  have hs:H.set (acU 2).s ((acU 2).b (a.length+1) (tpD w a++[row (bh w x)]))=[(1,.vars [lst di p,mat c,mat w]),b1,(acU 2).b (a.length+1) (tpD w a++[row (bh w x)])]:=by rw[hH];rfl
  rw[hs];have ih:=Po h hl ho b1 h0 K q (a++[x]) (by simp[e]) hK;have e4:((a++[x]).length:Int)=(a.length:Int)+1:=ac;rw[e4,aaO,Zq]at ih;simp(disch:=try exact af)
  simp_all[dN]
theorem IP(h:pP p c w)(hg:gtB w=0)(hl:l.length<=60)(ho:∀x∈l,yU p w x)(hm:mzB p l=0):CP Y F.cn [tpV p c w,mat l] (.tup [mat (l.map (bh w)),I (nth 0 (nth [] w 0) 0),I 0]):=by
 refine nX ?_;simp only[cn,tpV];simp;refine cd (args:=[tpV p c w]) (XW h hg) ?_ (by rfl);have l1:aN (mat l)=some (I l.length):=rfl;have g60:¬((l.length:Int)>60):=aa;have ok1:∀m:LiQ,okV (lst di m)=true:=λ_=>rfl
 have hn:=h.lc.n12;have a2:=wK (p:=p) (m:=l) aa aa;rw[hm]at a2;simp[l1,g60,ok1];refine cd a2 ?_ (by rfl);simp[l1];refine lo (Po h aa ho _ _ _ l [] rfl ?_);simp
 obtain⟨h',e1,_⟩:=nC (acU 2) (L:=l.length) (cells:=tpD w l) (h:=[(1,.vars [lst di p,mat c,mat w]),(1,.vars [I (nth 0 (nth [] w 0) 0),lst di (nth [] w 0),lst di (nth [] w 1)]),(acU 2).b l.length (tpD w l)]) rfl (by simp[acU,Pj]);refine⟨h',?_⟩
 simp_all[cF,aO,lst,tpD]
theorem ED{a:Q}(h:okQ a):okQ (tU a):=⟨h.1,by simp only[tU,Xh];exact h.2⟩
theorem Ja{a:Q}{K:Nat}(h:qL K a):qL K (tU a):=⟨by simp only[tU,Xh];exact h.1,h.2⟩
theorem S6{a:Q}(la:qL 100000 a):CP Y F.nM [.agg (qT a)] (.agg (qT (tU a))):=by refine FC ?_;have n1:=zw (z:=a.1) (by have:=la.1;omega);simp only[nM,qT,tU];simp;refine cd n1 ?_;simp;simp[mh]
theorem Ih{a b:Q}(ha:okQ a)(hb:okQ b)(la:qL 50000 a)(lb:qL 50000 b):CP Y F.mb [.agg (qT a),.agg (qT b)] (.agg (qT (oL a (tU b)))):=by
 refine FA ?_;have n1:=S6 (a:=b) (lb.mono aa);have n2:=MA ha (ED hb) (la.mono aa) ((Ja lb).mono aa);obtain⟨x,y,hxy⟩:∃x y,qT (oL a (tU b))=[S x,S y]:=⟨_,_,rfl⟩;obtain⟨x2,y2,hxy2⟩:∃x y,qT (tU b)=[S x,S y]:=⟨_,_,rfl⟩;rw[hxy,hxy2]at n2;rw[hxy2]at n1;rw[hxy];simp only[qT]at n1 n2 ⊢;simp only[mb];simp
 refine cd n1 ?_ (by rfl);simp;refine cd n2 ?_ (by rfl);simp;simp[mh]
theorem NT{p:LiQ}{k:Q}(hp:pcB p=0)(h0:0<p.length)(hN:p.length<1000)(hk:okQ k∧qL 30 k)(hr:okS (vm p.length [nO p.length] [k])):CP Y F.gk [lst di p,.agg (qT k)] (.tup [szV (vm p.length [nO p.length] [k]),I 0]):=by refine y9 ?_;have a1:=Tc (p:=p) hp aa h0;have a2:=UF (p:=p) (s:=nO p.length) (k:=k) hp aa (by grind[nO]) (OH _) hk hr;simp only[qT]at a2 ⊢;simp only[gk];simp;refine cd a1 ?_;simp;refine cd a2 ?_ (by rfl);simp;exact⟨_,rfl⟩
def kU(r:LiQ)(div:Int)(i:Nat)(x:Int):Q:=if i=0 then rr (oL (x,1) (tU (fM (nth 0 r 0) div))) (nth 0 r 1,1)else rr (x,1) (nth 0 r 1,1)
def fv(r:LiQ)(div:Int):Nat->LiQ->List Q
 |_,[]=>[]
 |i,x::q=>kU r div i x::fv r div (i+1) q
theorem A7(r:LiQ)(div:Int):∀(i:Nat)(a:LiQ)(x:Int),fv r div i (a++[x])=fv r div i a++[kU r div (i+a.length) x]
 |i,[],x=>by rfl
 | i,y::a,x=>by
  simp only[List.cons_append,fv,A7 r div (i+1) a x,List.length_cons];rw[show i+1+a.length=i+(a.length+1) by omega]
theorem nK(r:LiQ)(div:Int):∀(i:Nat)(a:LiQ),(fv r div i a).length=a.length
 |_,[]=>rfl
 |i,_::a=>by simp[fv,nK r div (i+1) a]
def prA:Acc:=⟨4,0,2,.none⟩
def prC(s:List Q):LdQ:=(s.map tx).flatMap bJ
theorem C9(s:List Q):(prC s).length=s.length*2:=by rw[prC,j9 bJ cg,List.length_map]
theorem Je(s:List Q)(k:Q):prC (s++[k])=prC s++bJ (tx k):=by simp[prC]
def prV(s:List Q):V:=if s=[]then .ref 1 1 0 0 0 0 else prA.v s.length (prC s)
def prH(by_:Q)(s:List Q):Hp:=[(1,.vars (qT by_)),(1,.data 2 [] true false),nnQ,nnQ,prA.b s.length (prC s)]
theorem ad5{s:List Q}{k b:Q}{s2 s3:Nat×Bk}{q:kkQ}{u:PU q}(hn:s.length<1000)
  (hq:q (prV (s++[k])) [(1,.vars (qT b)),(1,.data 2 [] true false),s2,s3,prA.b (s.length+1) (prC (s++[k]))]) :
  rh (apV false 4 2 32 (prV s) (.d (.sl 1 (bJ (tx k)))) [(1,.vars (qT b)),(1,.data 2 [] true false),s2,s3,prA.b s.length (prC s)]) q u:=by
 by_cases e:s=[]
 .subst e;trivial
 .rw[prV,if_neg e];refine nU prA (by_:=32) (k:=1) (cs:=bJ (tx k)) aa rfl (by rw[C9];rfl) rfl rfl (by grind) aa ae ?_
  simp_all[prV,prA,Je]
theorem Jf(h : -1000000000<=z∧z<=1000000000):okQ (z,1)∧qL 30 (z,1):=EQ z aa aa
theorem QV(h : -1000000000<=z∧z<=1000000000):CP Y F.fD [I z,I 1] (.tup [.agg (qT (z,1)),I 0]):=by
 have:=wV (n:=z) (d:=1) ae aa aa ae ae
 grind[EX]
theorem PZ{r x:LiQ}{div:Int}(hr2:2<=r.length)(hr:bd9 r)(h1:nth 0 r 1≠0)(hd:div≠0)(hdb : -1000000000<=div∧div<=1000000000)(hx:bd9 x)(hn:x.length<1000)(h0:Hp)(hh0:∃a b c d e,h0=[a,b,(0,c),(0,d),e])(K:KL) :
  ∀(q a:LiQ),x=a++q->K (.exit 0) [prV (fv r div 0 x)] (prH (nth 0 r 1,1) (fv r div 0 x)) ->
  lp (kN (CX Y) (lst di r) (I div) (.ptr 0 1 0 2) (lst di x) (I x.length)) [2,3] h0 [prV (fv r div 0 a),I a.length] (prH (nth 0 r 1,1) (fv r div 0 a)) K
 | [],a,e,hK=>by
  simp only[Zn]at e;subst e;refine ai ?_;have hlt:¬((x.length:Int)<(x.length:Int)):=aa;simp only[kN];simp[hlt];exact hK
 | z::q,a,e,hK=>by
  refine ai ?_;have hlt:((a.length:Int)<(x.length:Int)):=by rw[e];simp;omega
  have hz:=hx z (by grind);have i1:∀h:Hp,ixV h 1 (lst di x) (I a.length)=some (.dptr (x.map di) a.length):=λh=>by simp_all
  have i2:∀h:Hp,ld1 h (.dptr (x.map di) a.length)=some (I z):=λh=>by
   simp_all
  have hr1 : -1000000000<=nth 0 r 1∧nth 0 r 1<=1000000000:=hr _ (iT aa);have hr0 : -1000000000<=nth 0 r 0∧nth 0 r 0<=1000000000:=hr _ (iT aa);have j1:∀h:Hp,ixV h 1 (lst di r) (.d (.int .i64 0))=some (.dptr (r.map di) 0):=λh=>eY di r h rfl aa
  have j2:∀h:Hp,ld1 h (.dptr (r.map di) 0)=some (I (nth 0 r 0)):=λh=>eX di 0 r h aa
  obtain⟨s,hs⟩:=nmQ (fv r div 0 a);have hsl:s.length=a.length:=by rw[hs,nK]
  have hsn:s.length<1000:=aa;have eG:fv r div 0 (a++[z])=s++[kU r div a.length z]:=by rw[A7,<-hs,Zj]
  have o1:=Jf hz;have o2:=Jf hr1;rw[<-hs];simp only[prH,qT];simp only[kN];simp[hlt,i1,i2];refine cd (QV hz) ?_;simp only[qT];simp;obtain⟨A,B',c0,d0,E,rfl⟩:=hh0
  refine XK (λl h=>l=[]∧∃(kq:Q)(s3:Nat×Bk),h=[(1,.vars (qT (nth 0 r 1,1))),(1,.data 2 [] true false),(1,.vars (qT kq)),s3,prA.b s.length (prC s)]∧okQ kq∧qL 50001 kq∧kU r div a.length z=rr kq (nth 0 r 1,1)∧(s3=nnQ∨∃y:Q,s3=(1,.vars (qT y)))) ?_ ?_
  .rintro _ _ ⟨rfl,kq,s3,rfl,k1,k2,k3,k4⟩;have dv:=FI k1 o2.1 aa (k2.mono aa) (o2.2.mono aa);rw[<-k3]at dv;obtain⟨kk,hkk⟩:=nmQ (kU r div a.length z);rw[<-hkk]at dv eG;simp only[qT]at dv ⊢;simp;refine cd dv ?_ (by rfl)
   have hli:∀h:Hp,fJ 1 [D.str [],D.str []] [(0,.agg [V.d (.str (itoa kk.1)),V.d (.str (ah kk.2))])] h=some (bJ (tx kk),h):=λh=>WG kk h
   simp[hli];refine ad5 (s:=s) (k:=kk) (b:=(nth 0 r 1,1)) hsn ?_;have ih:=PZ hr2 hr h1 hd hdb hx hn [A,B',(0,c0),(0,d0),E] ⟨A,B',c0,d0,E,rfl⟩ K q (a++[z]) (by simp[e]) hK;have e4:((a++[z]).length:Int)=(a.length:Int)+1:=ac;rw[e4,eG]at ih;have ev:prV (s++[kk])=.ref 4 1 0 (s.length+1) (s.length+1) (prC (s++[kk])).length:=by simp[prV,prA,Acc.v]
   have cl:clean [2,3] [prV (s++[kk]),I ((a.length:Int)+1)] [(1,Bk.vars (qT (nth 0 r 1,1))),(1,Bk.data 2 [] true false),(1,Bk.vars (qT kk)),s3,prA.b (s.length+1) (prC (s++[kk]))]=true:=by
    rw[ev];rcases k4 with rfl|⟨y,rfl⟩<;>rfl
   have rs:aH [2,3] 0 [A,B',(0,c0),(0,d0),E] [(1,Bk.vars (qT (nth 0 r 1,1))),(1,Bk.data 2 [] true false),(1,Bk.vars (qT kk)),s3,prA.b (s.length+1) (prC (s++[kk]))]=prH (nth 0 r 1,1) (s++[kk]):=by
    rw[prH,Zq];obtain⟨A1,A2⟩:=A;obtain⟨B1,B2⟩:=B';obtain⟨E1,E2⟩:=E;obtain⟨S1,S2⟩:=s3;rfl
   have ea:biI BinOp.add (I (a.length:Int)) (V.d (D.int IntKind.i64 1))=some (I ((a.length:Int)+1)):=by simp(disch:=try exact af)
   refine aiS ea ?_;refine⟨cl,?_⟩;rw[<-rs]at ih;exact ih
  intro qq hqq;by_cases e0:a=[]
  .have fo:=wV (n:=nth 0 r 0) (d:=div) hd aa aa aa aa;have lz:=uG (n:=nth 0 r 0) hd;have lL:qL 30 (fM (nth 0 r 0) div):=Bq (Z4 (pB aa aa) ae) (Z4 (pB aa aa) ae);have sb:=Ih o1.1 lz (o1.2.mono aa) (lL.mono aa)
   have m1:=hqq [] _ ⟨rfl,oL (z,1) (tU (fM (nth 0 r 0) div)),(1,.vars (qT (fM (nth 0 r 0) div))),rfl,Jb o1.1 (ED lz),(N4 o1.2 (Ja lL)).mono aa,by simp[kU,e0],.inr ⟨_,rfl⟩⟩;generalize fM (nth 0 r 0) div=w1 at *;generalize oL (z,1) (tU w1)=w2 at *;simp only[qT]at fo sb m1;simp[e0,j1,j2];refine cd fo ?_;simp;refine cd sb ?_ (by rfl);simp;exact m1
  .have m1:=hqq [] _ ⟨rfl,(z,1),nnQ,rfl,o1.1,o1.2.mono aa,by simp[kU,e0],.inl rfl⟩;simp only[qT]at m1;simp[e0];exact m1
theorem pure_ok{p:LiQ}(hp:pcB p=0)(hl:x.length=p.length)(hr2:2<=r.length)(hr:bd9 r)(h1:nth 0 r 1≠0)(hd:div≠0)(hdb : -1000000000<=div∧div<=1000000000)(hx:bd9 x)(hn:x.length<1000)(h0:x≠[])(ho:okS (fv r div 0 x)):
  CP Y F.ja [lst di p,lst di x,lst di r,I div] (.tup [szV (fv r div 0 x),B true,I 0]):=by
 refine vf ?_;have j1:∀h:Hp,ixV h 1 (lst di r) (.d (.int .i64 1))=some (.dptr (r.map di) 1):=λh=>eY di r h rfl aa
 have j2:∀h:Hp,ld1 h (.dptr (r.map di) 1)=some (I (nth 0 r 1)):=λh=>eX di 0 r h aa
 have hr1 : -1000000000<=nth 0 r 1∧nth 0 r 1<=1000000000:=hr _ (iT aa);have fo:=QV hr1;have hli:∀h:Hp,fJ 0 [D.str [],D.str []] [] h=some ([],h):=λh=>by rfl
 have l1:aN (lst di x)=some (I x.length):=rfl;have ck:=Tt (p:=p) (s:=fv r div 0 x) hp aa (by rw[nK,hl]) ho;simp only[qT]at fo;simp only[ja];simp[j1,j2,h1];refine cd fo ?_;simp[hli,l1];have lp0:=PZ hr2 hr h1 hd hdb hx hn [(1,.vars [S (itoa (nth 0 r 1)),S (ah 1)]),(1,Bk.data 2 [] true false),nnQ,nnQ,nnQ] ⟨_,_,_,_,_,rfl⟩
 refine lo (lp0 _ x [] rfl ?_);simp;obtain⟨s,hs⟩:=nmQ (fv r div 0 x);have hsl:s.length=x.length:=by rw[hs,nK]
 rw[<-hs]at ck ⊢;have hs0:s≠[]:=λe=>h0 (by grind)
 obtain⟨h',e1,_⟩:=nC prA (L:=s.length) (cells:=prC s) (h:=prH (nth 0 r 1,1) s) rfl (C9 s)
 have e2:cF (prH (nth 0 r 1,1) s) (prV s)=some (szV s,h'):=by
  rw[prV,if_neg hs0,e1];simp[szV,lF,prC]
 refine qP (ds:=[lst di p,szV s]) (h':=h') ?_ ck ?_
 .simp_all[aO]
 .rw[show(if cI (I 0)=true then prH (nth 0 r 1,1) s else h')=prH (nth 0 r 1,1) s from rfl];simp
  simp_all[jz]
variable{p:LiQ}{c w:Mz}{g:List (List Q)}
abbrev Ve:=Nat->Int
variable{v u:Ve}
def cmb:LiQ->List Ve->Ve
 |k::ks,h::hs=>λi=>k*h i+cmb ks hs i
 |_,_=>λ_=>0
def Spn(m:List Ve)(v:Ve):Prop:=∃ks,v=cmb ks m
def adp:LiQ->LiQ->LiQ
 |k::ks,k'::ks'=>(k+k')::adp ks ks'
 |[],l=>l
 |l,[]=>l
theorem xB(m:List Ve):cmb [] m=λ_=>0:=by cases m<;>rfl
theorem Rc:∀(ks ks':LiQ)(m:List Ve)(i:Nat),cmb (adp ks ks') m i=cmb ks m i+cmb ks' m i
 |_,_,[],i=>by cases ‹LiQ› <;>simp[cmb]
 |[],l,h::m,i=>by simp[adp,xB]
 |k::ks,[],h::m,i=>by simp[adp,xB]
 | k::ks,k'::ks',h::m,i=>by
  simp only[adp,cmb,Rc ks ks' m i]
  grind
theorem Rb(c:Int):∀(ks:LiQ)(m:List Ve)(i:Nat),cmb (ks.map (c * ·)) m i=c*cmb ks m i
 |[],m,i=>by simp[xB]
 |k::ks,[],i=>by simp[cmb]
 | k::ks,h::m,i=>by
  simp only[Zs,cmb,Rb c ks m i]
  grind
theorem Spn.zero(m:List Ve):Spn m λ_=>0:=⟨[],(xB m).symm⟩
theorem Spn.add{m:List Ve}(hu:Spn m u)(hv:Spn m v):Spn m λi=>u i+v i:=by obtain⟨a,rfl⟩:=hu;obtain⟨b,rfl⟩:=hv;exact⟨adp a b,funext λi=>(Rc a b m i).symm⟩
theorem Spn.mul{m:List Ve}(c:Int)(hu:Spn m u):Spn m λi=>c*u i:=by obtain⟨a,rfl⟩:=hu;exact⟨a.map (c * ·),funext λi=>(Rb c a m i).symm⟩
theorem Spn.sub{m:List Ve}(hu:Spn m u)(hv:Spn m v):Spn m λi=>u i-v i:=by
 have:=hu.add (hv.mul (-1))
 grind
theorem Spn.mem:∀{m:List Ve}{h:Ve},h∈m->Spn m h
 | g::m,h,hm=>by
  rcases Zy.1 hm with rfl|hm
  .exact⟨[1],funext λi=>by simp[cmb,xB]⟩
  .obtain⟨ks,e⟩:=Spn.mem hm;exact⟨0::ks,funext λi=>by grind[cmb]⟩
theorem Spn.le:∀{m m':List Ve},(∀h∈m,Spn m' h)->∀{v},Spn m v->Spn m' v:=λ{m m'} hm {v} hv=>by
 obtain⟨ks,rfl⟩:=hv
 induction m generalizing ks with
 |nil=>cases ks<;>exact Spn.zero m'
 | cons h m ih=>
  cases ks with
  |nil=>simp[xB,zero]
  |cons k ks=>exact((hm h ac).mul k).add (ih (λg hg=>hm g (by grind)) ks)
def Hnf:Nat->List (Nat×Ve)->Prop
 |_,[]=>True
 |o,(l,h)::m=>(o<=l∧0<h l∧∀j,j<l->h j=0)∧(∀x∈m,0<=h x.1∧h x.1<x.2 x.1)∧Hnf (l+1) m
def vs(m:List (Nat×Ve)):List Ve:=m.map (·.2)
theorem XP(h:o'<=o):∀{m:List (Nat×Ve)},Hnf o m->Hnf o' m
 |[],_=>trivial
 |(l,g)::m,⟨⟨a,b⟩,c⟩=>⟨⟨aa,b⟩,c⟩
theorem rE:∀{m:List (Nat×Ve)}{o:Nat},Hnf o m->∀{v},Spn (vs m) v->∀j,j<o->v j=0
 |[],o,_,v,⟨ks,e⟩,j,hj=>by subst e;cases ks<;>rfl
 | (l,h)::m,o,⟨⟨a,b,c⟩,d,r⟩,v,⟨ks,e⟩,j,hj=>by
  subst e;cases ks with
  |nil=>rfl
  | cons k ks=>
   have h2:=rE r ⟨ks,rfl⟩ j aa
   grind[vs,cmb]
theorem qD:∀{m:List (Nat×Ve)}{o:Nat},Hnf o m->∀{v},Spn (vs m) v->(∀j,v j=0)∨∃x∈m,(∀j,j<x.1->v j=0)∧v x.1≠0∧x.2 x.1∣v x.1
 |[],o,_,v,⟨ks,e⟩=>.inl λj=>by subst e;cases ks<;>rfl
 | (l,h)::m,o,⟨⟨a,b,c⟩,d,r⟩,v,⟨ks,e⟩=>by
  subst e;cases ks with
  |nil=>exact .inl λj=>rfl
  | cons k ks=>
   have h2:=λj hj=>rE r (v:=cmb ks (vs m)) ⟨ks,rfl⟩ j hj
   by_cases hk:k=0
   .subst hk;have e:cmb (0::ks) (vs ((l,h)::m))=cmb ks (vs m):=funext λi=>by simp[vs,cmb]
    rw[e];rcases qD r (v:=cmb ks (vs m)) ⟨ks,rfl⟩with z|⟨x,hx,p⟩
    .grind
    grind
   .refine .inr ⟨(l,h),ac,λj hj=>?_,?_,?_⟩
    .show k*h j+cmb ks (vs m) j=0
     rw[c j hj,h2 j aa];simp
    .show k*h l+cmb ks (vs m) l≠0
     rw[h2 l aa,Int.add_zero];exact Xy hk aa
    grind[cmb,vs,Int.dvd_mul_left]
theorem zR{l:Nat}{h:Ve}{m:List (Nat×Ve)}{o:Nat}(H:Hnf o ((l,h)::m)){v:Ve}(hv:Spn (vs ((l,h)::m)) v)(h0:v l=0):Spn (vs m) v:=by
 obtain⟨⟨a,b,c⟩,d,r⟩:=H;obtain⟨ks,rfl⟩:=hv;cases ks with
 |nil=>exact Spn.zero _
 | cons k ks=>
  have h2:=rE r (v:=cmb ks (vs m)) ⟨ks,rfl⟩ l aa;have h3:k*h l+cmb ks (vs m) l=0:=h0;rw[h2,Int.add_zero]at h3
  have hk:k=0:=by
   rcases Int.mul_eq_zero.1 h3 with h|h
   .exact h
   .omega
  subst hk;exact⟨ks,funext λi=>by simp[vs,cmb]⟩
theorem yF:∀{m:List (Nat×Ve)}{o:Nat},Hnf o m->∀x∈m,o<=x.1
 | (l,h)::m,o,⟨⟨a,b⟩,d,r⟩,x,hx=>by
  rcases Zy.1 hx with rfl|hx
  .exact a
  .have:=yF r x hx;omega
theorem Mt{l l':Nat}{h h':Ve}{m m':List (Nat×Ve)}{o o':Nat}(H:Hnf o ((l,h)::m))(H':Hnf o' ((l',h')::m'))(e:Spn (vs ((l',h')::m')) h):l'<=l∧(l=l'->h' l∣h l):=by
 obtain⟨⟨a,b,c⟩,d,r⟩:=H;rcases qD H' e with z|⟨x,hx,p1,p2,p3⟩
 .exact absurd (z l) aa
 ·have e1:x.1=l:=by
   rcases Nat.lt_trichotomy x.1 l with g|g|g
   .grind
   .exact g
   .grind
  have ge:=yF H' x hx;obtain⟨⟨a',b',c'⟩,d',r'⟩:=H'
  have hg:l'<=x.1:=by
   rcases Zy.1 hx with rfl|hx
   .omega
   .have:=yF r' x hx;omega
  refine⟨aa,λel=>?_⟩;rcases Zy.1 hx with rfl|hx
  .grind
  grind[yF]
theorem Ms:∀{m m':List (Nat×Ve)}{o:Nat},Hnf o m->Hnf o m'->(∀v,Spn (vs m) v↔Spn (vs m') v)->m=m'
 |[],[],_,_,_,_=>rfl
 | [],(l,h)::m',o,H,H',e=>by
  have h1:=(e h).2 (Spn.mem (by simp[vs]));rcases qD H h1 with z|⟨x,hx,_⟩
  .have:=H'.1.2.1;grind
  trivial
 | (l,h)::m,[],o,H,H',e=>by
  have h1:=(e h).1 (Spn.mem (by simp[vs]));rcases qD H' h1 with z|⟨x,hx,_⟩
  .have:=H.1.2.1;grind
  trivial
 | (l,h)::m,(l',h')::m',o,H,H',e=>by
  have a1:=Mt H H' ((e h).1 (Spn.mem (by simp[vs])));have a2:=Mt H' H ((e h').2 (Spn.mem (by simp[vs])));obtain rfl:l=l':=aa;have d1:=a1.2 rfl;have d2:=a2.2 rfl;have p1:=H.1.2.1;have p2:=H'.1.2.1;have el:h l=h' l:=Int.le_antisymm (Int.le_of_dvd p2 d2) (Int.le_of_dvd p1 d1)
  have te:∀v,Spn (vs m) v↔Spn (vs m') v:=λv=>by
   constructor
   .intro hv;have z:v l=0:=rE H.2.2 hv l aa
    grind[zR,Spn.le,Spn.mem,vs]
   .intro hv;have z:v l=0:=rE H'.2.2 hv l aa
    grind[zR,Spn.le,Spn.mem,vs]
  obtain rfl:=Ms H.2.2 H'.2.2 te;have hu:Spn (vs ((l,h)::m)) λi=>h i-h' i:=Spn.sub (Spn.mem (by simp[vs])) ((e h').2 (Spn.mem (by simp[vs])))
  have hu2:=zR H hu aa
  have eh:h=h':=by
   rcases qD H.2.2 hu2 with z|⟨x,hx,q1,q2,q3⟩
   .grind
   .have b1:=H.2.1 x hx;have b2:=H'.2.1 x hx;exact absurd (Int.eq_zero_of_dvd_of_natAbs_lt_natAbs q3 aa) q2
  rw[eh]
abbrev eZ(m:Mz)(i j:Nat):Int:=nth 0 (nth [] m i) j
def ve(r:LiQ):Ve:=λi=>nth 0 r i
def Ln(n:Nat)(m:Mz):Prop:=∀i,i<m.length->(nth [] m i).length=n
def tkZ(c o:Nat)(m:Mz)(i:Nat):Mz:=jb [] (λr=>r) (λ_ r=>r) c o m i
theorem tW{α:Type}(d:α)(l:List α)(i j:Nat)(x:α)(h:i<l.length):nth d (l.set i x) j=if j=i then x else nth d l j:=by
 simp only[nth,Z6,List.getElem?_set];by_cases e:i=j
 .grind
 .rw[if_neg e,if_neg (λg=>e g.symm)]
theorem VL(k:Int):∀(a b:LiQ)(j:Nat),a.length=b.length->nth 0 (sd k a b) j=nth 0 a j-k*nth 0 b j
 |[],[],j,_=>by simp[sd,nth]
 |x::a,y::b,0,_=>by rfl
 | x::a,y::b,j+1,h=>by
  grind[sd,nth]
 |[],_::_,_,h=>by simp at h
 |_::_,[],_,h=>by simp at h
theorem QY{c:Nat}(hl:Ln n m)(hi:i<m.length)(ho:o<m.length)(k j:Nat):eZ (tkZ c o m i) k j=if k=i then eZ m i j-(eZ m i c).fdiv (eZ m o c)*eZ m o j else eZ m k j:=by
 unfold eZ tkZ jb;rw[tW _ _ _ _ _ hi];split
 .rename_i h;rw[VL _ _ _ _ ((hl i hi).trans (hl o ho).symm)];rfl
 .rfl
theorem aeq(hl:Ln n m)(hx:x.length=n):Ln n (m.set i x):=λj hj=>by
 rw[Yt]at hj;by_cases h:i<m.length
 .rw[tW _ _ _ _ _ h];split
  .exact hx
  .exact hl j hj
 .rw[List.set_eq_of_length_le aa];exact hl j hj
theorem rT(c o:Nat)(m:Mz)(i:Nat):(tkZ c o m i).length=m.length:=mr c o m i
theorem Jy{c:Nat}(hl:Ln n m)(hi:i<m.length)(ho:o<m.length):Ln n (tkZ c o m i):=
 aeq hl (by simp[sd,hl i hi,hl o ho])
def SpZ(m:Mz)(v:Ve):Prop:=Spn (m.map ve) v
theorem ik(hi:i<m.length):SpZ m (ve (nth [] m i)):=Spn.mem (Zw.2 ⟨_,by rw[nth,Z6,List.getElem?_eq_getElem hi];simp,rfl⟩)
theorem AR(h:∀i,i<m.length->SpZ m' (ve (nth [] m i)))(hv:SpZ m v):SpZ m' v:=by
 refine Spn.le (λg hg=>?_) hv;obtain⟨r,hr,rfl⟩:=Zw.1 hg;obtain⟨i,hi,rfl⟩:=Zf.1 hr;have:=h i hi
 rwa [nth,Z6,List.getElem?_eq_getElem hi]at this
def SpE(m m':Mz):Prop:=∀v,SpZ m v↔SpZ m' v
theorem Pb{c:Nat}(hl:Ln n m)(hi:i<m.length)(ho:o<m.length):ve (nth [] (tkZ c o m i) i)=λj=>ve (nth [] m i) j-(eZ m i c).fdiv (eZ m o c)*ve (nth [] m o) j:=funext λj=>by
 have:=QY (c:=c) hl hi ho i j;rw[if_pos rfl]at this;exact this
theorem qp{c:Nat}(hi:i<m.length)(h:k≠i):nth [] (tkZ c o m i) k=nth [] m k:=by grind[tkZ,jb,tW]
theorem Um{c:Nat}(hl:Ln n m)(hi:i<m.length)(ho:o<m.length)(hne:i≠o):SpE m (tkZ c o m i):=λv=>by
 have hi':i<(tkZ c o m i).length:=by rw[rT];exact hi
 have ho':o<(tkZ c o m i).length:=by rw[rT];exact ho
 have eo:nth [] (tkZ c o m i) o=nth [] m o:=qp hi (λh=>hne h.symm);constructor
 .refine AR λk hk=>?_
  by_cases h:k=i
  .subst h;have a:=(ik hi').add ((ik ho').mul ((eZ m k c).fdiv (eZ m o c)))
   have e:(λj=>ve (nth [] (tkZ c o m k) k) j+(eZ m k c).fdiv (eZ m o c)*ve (nth [] (tkZ c o m k) o) j)=ve (nth [] m k):=funext λj=>by
    grind[Pb]
   rw[e]at a;exact a
  .rw[<-qp (c:=c) (o:=o) hi h]
   grind[ik,rT]
 .refine AR λk hk=>?_
  rw[rT]at hk;by_cases h:k=i
  .subst h;rw[Pb hl hi ho];exact(ik hi).sub ((ik ho).mul _)
  grind[qp,ik]
theorem SpE.refl(m:Mz):SpE m m:=λv=>Iff.rfl
theorem SpE.trans{a b c:Mz}(h:SpE a b)(h':SpE b c):SpE a c:=λv=>(h v).trans (h' v)
def swZ(m:Mz)(i j:Nat):Mz:=lK [] m i j
theorem uu(hi:i<m.length)(hj:j<m.length)(k:Nat):nth [] (swZ m i j) k=if k=j then nth [] m i else if k=i then nth [] m j else nth [] m k:=by
 unfold swZ lK;rw[tW _ _ _ _ _ (by grind)];split
 .rfl
 .rw[tW _ _ _ _ _ hi]
theorem wg(m:Mz)(i j:Nat):(swZ m i j).length=m.length:=gG m i j
theorem Jz(hl:Ln n m)(hi:i<m.length)(hj:j<m.length):Ln n (swZ m i j):=λk hk=>by
 rw[wg]at hk;rw[uu hi hj];split
 .exact hl i hi
 .split
  .exact hl j hj
  .exact hl k hk
theorem Un(hi:i<m.length)(hj:j<m.length):SpE m (swZ m i j):=λv=>by
 have hi':i<(swZ m i j).length:=by rw[wg];exact hi
 have hj':j<(swZ m i j).length:=by rw[wg];exact hj
 constructor
 .refine AR λk hk=>?_
  by_cases h1:k=i
  .subst h1;have:=ik hj'
   grind[uu]
  .by_cases h2:k=j
   .subst h2;have:=ik hi'
    grind[uu]
   .have:=ik (m:=swZ m i j) (i:=k) (by grind[wg])
    grind[uu]
 grind[AR,wg,uu,ik]
def ngZ(c o:Nat)(m:Mz):Mz:=Bj [] (λr=>r) (λ_ r=>r) c o m
theorem zu(a:LiQ)(j:Nat):nth 0 (a.map (- ·)) j = - nth 0 a j:=by grind[nth]
theorem wI{c:Nat}(ho:o<m.length)(k:Nat):nth [] (ngZ c o m) k=if k=o∧eZ m o c<0 then(nth [] m o).map (- ·)else nth [] m k:=by
 show nth [] (if eZ m o c<0 then m.set o ((nth [] m o).map (- ·))else m) k=_
 by_cases h:eZ m o c<0
 .rw[if_pos h,tW _ _ _ _ _ ho];by_cases hk:k=o
  .rw[if_pos hk,if_pos ⟨hk,h⟩]
  .rw[if_neg hk,if_neg (λg=>hk g.1)]
 .rw[if_neg h,if_neg (λg=>h g.2)]
theorem Bi(c o:Nat)(m:Mz):(ngZ c o m).length=m.length:=EU c o m
theorem V6{c:Nat}(hl:Ln n m)(ho:o<m.length):Ln n (ngZ c o m):=λk hk=>by
 rw[Bi]at hk;rw[wI ho];split
 .rw[List.length_map];exact hl o ho
 .exact hl k hk
theorem TO(a:LiQ):ve (a.map (- ·))=λi=>-1*ve a i:=funext λj=>by
 show nth 0 (a.map (- ·)) j = -1*nth 0 a j
 simp[zu]
theorem aaS{c:Nat}(ho:o<m.length):SpE m (ngZ c o m):=λv=>by
 have ho':o<(ngZ c o m).length:=by rw[Bi];exact ho
 constructor
 .refine AR λk hk=>?_
  by_cases h:k=o∧eZ m o c<0
  .have:=(ik ho').mul (-1);rw[wI ho,if_pos ⟨rfl,h.2⟩,TO]at this;obtain⟨rfl,_⟩:=h;have e:(λi=>-1*(-1*ve (nth [] m k) i))=ve (nth [] m k):=funext λi=>by omega
   rw[e]at this;exact this
  .have:=ik (m:=ngZ c o m) (i:=k) (by grind[Bi])
   grind[wI]
 .refine AR λk hk=>?_
  rw[Bi]at hk;rw[wI ho];split
  .rw[TO];exact(ik ho).mul _
  grind[ik]
def Cs(c o r i:Nat)(b:Bool)(m:Mz):Bool×Mz:=kR [] (λr=>r) (λ_ r=>r) c o r i b m
def upZ(c o r i:Nat)(m:Mz):Mz:=upG [] (λr=>r) (λ_ r=>r) c o r i m
structure ID(n c o i r:Nat)(m m':Mz):Prop where
 len:m'.length=m.length
 ln:Ln n m'
 sp:SpE m m'
 out:∀k,(k<i∨i+r<=k)->nth [] m' k=nth [] m k
 inn:∀k,i<=k->k<i+r->∀j,eZ m' k j=eZ m k j-(eZ m k c).fdiv (eZ m o c)*eZ m o j
theorem Eb{c r:Nat}(hl:Ln n m)(ho:o<m.length)(hi:i+(r+1)<=m.length)(hoi:o<i∨i+(r+1)<=o)(h:ID n c o (i+1) r (tkZ c o m i) m'):ID n c o i (r+1) m m':=by
 have eo:nth [] (tkZ c o m i) o=nth [] m o:=qp aa aa;refine⟨h.len.trans (rT ..),h.ln,(Um hl aa ho aa).trans h.sp,λk hk=>?_,λk h1 h2 j=>?_⟩
 .rw[h.out k aa,qp aa aa]
 .by_cases hki:k=i
  .subst hki;have e1:nth [] m' k=nth [] (tkZ c o m k) k:=h.out k aa
   show nth 0 (nth [] m' k) j=_
   rw[e1];have:=QY (c:=c) hl (by omega:k<m.length) ho k j
   grind
  .have e2:=h.inn k aa aa j;have e3:nth [] (tkZ c o m i) k=nth [] m k:=qp aa hki
   grind
theorem IK{n c o:Nat}:∀(r i:Nat){m:Mz},Ln n m->o<m.length->i+r<=m.length->(o<i∨i+r<=o)->ID n c o i r m (upZ c o r i m)
 |0,i,m,hl,ho,hi,hoi=>⟨rfl,hl,SpE.refl m,λ_ _=>rfl,λk h1 h2=>by omega⟩
 | r+1,i,m,hl,ho,hi,hoi=>by
  have ih:=IK (c:=c) r (i+1) (m:=tkZ c o m i) (Jy hl aa ho) (by rw[rT];exact ho) (by grind[rT]) aa;exact Eb hl ho hi hoi ih
theorem ut{n c o:Nat}:∀(r i:Nat)(b:Bool){m:Mz},Ln n m->o<m.length->i+r<=m.length->(o<i∨i+r<=o)->ID n c o i r m (Cs c o r i b m).2∧((Cs c o r i b m).1=false->b=false∧∀k,i<=k->k<i+r->(eZ m k c).fmod (eZ m o c)=0)
 |0,i,b,m,hl,ho,hi,hoi=>⟨⟨rfl,hl,SpE.refl m,λ_ _=>rfl,λk h1 h2=>by omega⟩,λh=>⟨h,λk h1 h2=>by omega⟩⟩
 | r+1,i,b,m,hl,ho,hi,hoi=>by
  have ih:=ut (c:=c) r (i+1) (b||decide ((eZ m i c).fmod (eZ m o c)≠0)) (m:=tkZ c o m i) (Jy hl aa ho) (by rw[rT];exact ho) (by grind[rT]) aa;refine⟨Eb hl ho hi hoi ih.1,λh=>?_⟩;obtain⟨h1,h2⟩:=ih.2 h;simp only[Bool.or_eq_false_iff,decide_eq_false_iff_not,Decidable.not_not]at h1;refine⟨h1.1,λk a1 a2=>?_⟩;by_cases hki:k=i
  .grind
  .have eo:nth [] (tkZ c o m i) o=nth [] m o:=qp aa aa;have ek:nth [] (tkZ c o m i) k=nth [] m k:=qp aa hki
   grind
def aZ(c:Nat)(m:Mz)(r i:Nat)(a:Int):Int:=atG [] (λr=>r) c m r i a
theorem DN(c:Nat)(m:Mz)(o:Nat):∀(r i:Nat)(a:Int),(a<0∧(∀k,o<=k->k<i->eZ m k c=0)∨(o:Int)<=a∧a<i∧eZ m a.toNat c≠0)->o<=i ->
  (aZ c m r i a<0∧(∀k,o<=k->k<i+r->eZ m k c=0)∨(o:Int)<=aZ c m r i a∧aZ c m r i a<(i+r:Nat)∧eZ m (aZ c m r i a).toNat c≠0)
 |0,i,a,h,hi=>by trivial
 | r+1,i,a,h,hi=>by
  have key:aZ c m (r+1) i a=aZ c m r (i+1) (if eZ m i c≠0∧(a<0∨(eZ m i c).natAbs<(eZ m a.toNat c).natAbs)then i else a):=rfl;rw[key];have e:i+1+r=i+(r+1):=aa;rw[<-e];refine DN c m o r (i+1) _ ?_ aa;split
  .rename_i g;exact .inr ⟨aa,aa,by grind⟩
  .rename_i g;rcases h with⟨h1,h2⟩|⟨h1,h2,h3⟩
   .refine .inl ⟨h1,λk a1 a2=>?_⟩;by_cases hk:k=i
    .grind
    .exact h2 k a1 aa
   .exact .inr ⟨h1,aa,h3⟩
structure Hm(n c o:Nat)(L:Nat->Nat)(m:Mz):Prop where
 le:o<=m.length
 ln:Ln n m
 lt:∀i,i<o->L i<c
 inc:∀i j,i<j->j<o->L i<L j
 pos:∀i,i<o->0<eZ m i (L i)
 low:∀i,i<o->∀j,j<L i->eZ m i j=0
 red:∀i j,i<j->j<o->0<=eZ m i (L j)∧eZ m i (L j)<eZ m j (L j)
 zer:∀k,o<=k->k<m.length->∀j,j<c->eZ m k j=0
theorem QF{c:Nat}(H:Hm n c o L m)(hl:m'.length=m.length)(hn:Ln n m')(h1:∀i,i<o->nth [] m' i=nth [] m i)(h2:∀k,o<=k->k<m.length->∀j,j<c->eZ m' k j=0):Hm n c o L m' where
 le:=by rw[hl];exact H.le
 ln:=hn
 lt:=H.lt
 inc:=H.inc
 pos:=λi hi=>by have:=H.pos i hi;grind
 low:=λi hi j hj=>by grind[Hm.low]
 red:=λi j hij hj=>by have:=H.red i j hij hj;simp only[eZ,h1 i aa,h1 j hj];omega
 zer:=λk a b j hj=>h2 k a aa j hj
theorem abW{c:Nat}(H:Hm n c o L m)(h:∀k,o<=k->k<m.length->eZ m k c=0):Hm n (c+1) o L m where
 le:=H.le
 ln:=H.ln
 lt:=λi hi=>by have:=H.lt i hi;omega
 inc:=H.inc
 pos:=H.pos
 low:=H.low
 red:=H.red
 zer:=λk a b j hj=>by
  by_cases e:j=c
  .grind
  .exact H.zer k a b j aa
theorem aez{c:Nat}(H:Hm n c o L m)(ho:o<m.length)(h0:eZ m o c≠0)(h1:∀k,o<k->k<m.length->eZ m k c=0):
  Hm n (c+1) (o+1) (λi=>if i=o then c else L i) (upZ c o o 0 (ngZ c o m))∧SpE m (upZ c o o 0 (ngZ c o m))∧(upZ c o o 0 (ngZ c o m)).length=m.length:=by
 obtain⟨m3,h3⟩:=nmQ (ngZ c o m);have l3:m3.length=m.length:=by rw[h3,Bi]
 have n3:Ln n m3:=by rw[h3];exact V6 H.ln ho
 have r3:∀k,k≠o->nth [] m3 k=nth [] m k:=λk hk=>by rw[h3,wI ho,if_neg (λg=>hk g.1)]
 have o3:∀j,eZ m3 o j=if eZ m o c<0 then-eZ m o j else eZ m o j:=λj=>by
  simp only[eZ,h3];rw[wI ho];by_cases g:eZ m o c<0
  .rw[if_pos ⟨rfl,g⟩,if_pos g,zu]
  .rw[if_neg (λx=>g x.2),if_neg g]
 have p3:0<eZ m3 o c:=by rw[o3];split<;>omega
 have z3:∀j,j<c->eZ m3 o j=0:=λj hj=>by grind[Hm.zer]
 have U:=IK (c:=c) (o:=o) o 0 n3 aa aa (.inr aa);rw[<-h3];obtain⟨m4,h4⟩:=nmQ (upZ c o o 0 m3);rw[<-h4]at U ⊢
 have i4:∀i,i<o->∀j,eZ m4 i j=eZ m i j-(eZ m i c).fdiv (eZ m3 o c)*eZ m3 o j:=λi hi j=>by
  have:=U.inn i aa aa j;rw[this];simp only[eZ,r3 i aa]
 have j4:∀i,i<o->∀j,j<c->eZ m4 i j=eZ m i j:=λi hi j hj=>by grind
 have k4:∀k,o<=k->∀j,eZ m4 k j=eZ m3 k j:=λk hk j=>by simp only[eZ,U.out k (.inr aa)]
 have c4:∀i,i<o->0<=eZ m4 i c∧eZ m4 i c<eZ m3 o c:=λi hi=>by
  have e:eZ m4 i c=(eZ m i c).fmod (eZ m3 o c):=by
   rw[i4 i hi c,Int.fmod_def,X0]
  simp_all[Int.fmod_nonneg_of_pos,Int.fmod_lt_of_pos]
 refine⟨⟨by rw[U.len];omega,U.ln,λi hi=>?_,λi j hij hj=>?_,λi hi=>?_,λi hi j hj=>?_,λi j hij hj=>?_,λk a b j hj=>?_⟩,?_,by rw[U.len,l3]⟩
 .show(if i=o then c else L i)<c+1
  split
  .omega
  .have:=H.lt i aa;omega
 .show(if i=o then c else L i)<(if j=o then c else L j)
  rw[if_neg aa];split
  .exact H.lt i aa
  .exact H.inc i j hij aa
 .show 0<eZ m4 i (if i=o then c else L i)
  by_cases e:i=o
  .grind
  .rw[if_neg e,j4 i aa _ (H.lt i aa)];exact H.pos i aa
 .have hj:j<(if i=o then c else L i):=hj;by_cases e:i=o
  .grind
  .rw[if_neg e]at hj;have:=H.lt i aa;rw[j4 i aa _ aa];exact H.low i aa j hj
 .show 0<=eZ m4 i (if j=o then c else L j)∧eZ m4 i (if j=o then c else L j)<eZ m4 j (if j=o then c else L j)
  by_cases e:j=o
  .rw[if_pos e,e,k4 o (Z8 _)];exact c4 i aa
  .rw[if_neg e,j4 i aa _ (H.lt j aa),j4 j aa _ (H.lt j aa)];exact H.red i j hij aa
 .rw[U.len,l3]at b;rw[k4 k aa];have e:eZ m3 k j=eZ m k j:=by simp only[eZ,r3 k aa]
  rw[e];by_cases g:j=c
  .subst g;exact h1 k aa b
  .exact H.zer k aa b j aa
 grind[aaS,SpE.trans,ID.sp]
def rdZ(B c f o:Nat)(m:Mz):Option (Nat×Mz):=m8 [] (λr=>r) (λ_ r=>r) B c f o m
theorem Fu{n c B:Nat}:∀(f:Nat){o:Nat}{L:Nat->Nat}{m m':Mz}{o':Nat},Hm n c o L m->o<m.length->rdZ B c f o m=some (o',m')->(∃L',Hm n (c+1) o' L' m')∧SpE m m'∧m'.length=m.length
 |0,o,L,m,m',o',H,ho,h=>by cases h
 | f+1,o,L,m,m',o',H,ho,h=>by
  have key:rdZ B c (f+1) o m=if(m.all λa=>bdZ B a)=true then
   (if aZ c m (m.length-o) o (-1)<0 then some (o,m)else
    if(Cs c o (m.length-(o+1)) (o+1) false (swZ m o (aZ c m (m.length-o) o (-1)).toNat)).1=true then rdZ B c f o (Cs c o (m.length-(o+1)) (o+1) false (swZ m o (aZ c m (m.length-o) o (-1)).toNat)).2
    else some (o+1,upZ c o o 0 (ngZ c o (Cs c o (m.length-(o+1)) (o+1) false (swZ m o (aZ c m (m.length-o) o (-1)).toNat)).2)))else none:=rfl
  rw[key]at h;have A:=DN c m o (m.length-o) o (-1) (.inl ⟨aa,λk a b=>by omega⟩) (Z8 _);obtain⟨a,ha⟩:=nmQ (aZ c m (m.length-o) o (-1));rw[<-ha]at A h;split at h
  case isFalse=>cases h
  split at h
  .rename_i g;cases h;rcases A with⟨_,A⟩|⟨A,_⟩
   .exact⟨⟨L,abW H λk h1 h2=>A k h1 aa⟩,SpE.refl _,rfl⟩
   .omega
  .rename_i g;rcases A with⟨A,_⟩|⟨A1,A2,A3⟩
   .omega
   have hi:a.toNat<m.length:=aa;obtain⟨m1,h1⟩:=nmQ (swZ m o a.toNat);have l1:m1.length=m.length:=by rw[h1,wg]
   have n1:Ln n m1:=by rw[h1];exact Jz H.ln ho hi
   have s1:SpE m m1:=by rw[h1];exact Un ho hi
   have e1:∀k,nth [] m1 k=if k=a.toNat then nth [] m o else if k=o then nth [] m a.toNat else nth [] m k:=λk=>by grind[uu]
   have H1:Hm n c o L m1:=QF H l1 n1 (λi hi'=>by rw[e1,if_neg aa,if_neg aa]) (λk a1 a2 j hj=>by
    simp only[eZ,e1];split
    .grind[Hm.zer]
    .split
     .exact H.zer a.toNat aa hi j hj
     grind[Hm.zer])
   have p1:eZ m1 o c≠0:=by
    simp only[eZ,e1];split
    .grind
    .trivial
   rw[<-h1]at h;have S:=ut (n:=n) (c:=c) (o:=o) (m.length-(o+1)) (o+1) false n1 aa aa (.inl aa);obtain⟨s,hs⟩:=nmQ (Cs c o (m.length-(o+1)) (o+1) false m1);rw[<-hs]at S h;obtain⟨S1,S2⟩:=S;have l2:s.2.length=m.length:=by rw[S1.len,l1]
   have eo:nth [] s.2 o=nth [] m1 o:=S1.out o (.inl aa)
   have H2:Hm n c o L s.2:=QF H1 S1.len S1.ln (λi hi'=>S1.out i (.inl aa)) (λk a1 a2 j hj=>by
    by_cases hk:k=o
    .subst hk;simp only[eZ,eo];exact H1.zer k (Z8 _) aa j hj
    .rw[S1.inn k aa aa j,H1.zer k a1 a2 j hj,H1.zer o (Z8 _) aa j hj];simp)
   split at h
   .have ih:=Fu f H2 aa h;exact⟨ih.1,(s1.trans S1.sp).trans ih.2.1,by rw[ih.2.2,l2]⟩
   .rename_i gs;cases h;have z:=S2 (by grind)
    have E:=aez (c:=c) H2 aa (by grind) (λk a1 a2=>by
     rw[S1.inn k aa aa c];have:=z.2 k aa aa;rw[Int.fmod_def,X0]at this;omega)
    exact⟨⟨_,E.1⟩,(s1.trans S1.sp).trans E.2.1,by rw[E.2.2,l2]⟩
def clZ(B f r c o:Nat)(m:Mz):Option (Nat×Mz):=pi [] (λr=>r) (λ_ r=>r) B f r c o m
theorem QG{n B f:Nat}:∀(r:Nat){c o:Nat}{L:Nat->Nat}{m m':Mz}{o':Nat},Hm n c o L m->clZ B f r c o m=some (o',m')->(∃L',Hm n (c+r) o' L' m')∧SpE m m'∧m'.length=m.length
 | 0,c,o,L,m,m',o',H,h=>by
  cases h
  grind[SpE.refl]
 | r+1,c,o,L,m,m',o',H,h=>by
  have h2:pi [] (λr=>r) (λ_ r=>r) B f (r+1) c o m=some (o',m'):=h;simp only[pi]at h2;split at h2
  .rename_i ho;split at h2
   .rename_i o1 m1 hr;obtain⟨⟨L1,H1⟩,s1,l1⟩:=Fu f H ho hr;obtain⟨⟨L2,H2⟩,s2,l2⟩:=QG r H1 h2;exact⟨⟨L2,by rw[show c+(r+1)=c+1+r by omega];exact H2⟩,s1.trans s2,by rw[l2,l1]⟩
   trivial
  .rename_i ho;cases h2;have e:∀k,o<=k->k<m.length->False:=λk a b=>by omega
   exact⟨⟨L,⟨H.le,H.ln,λi hi=>by have:=H.lt i hi;omega,H.inc,H.pos,H.low,H.red,λk a b=>absurd (e k a b) id⟩⟩,SpE.refl _,rfl⟩
theorem Dw{B columns:Nat}(hl:Ln n m)(h:qU B f columns m=some (o,m')):(∃L,Hm n columns o L m')∧SpE m m'∧m'.length=m.length:=by
 have H:Hm n 0 0 (λ_=>0) m:=⟨aa,hl,λi hi=>by omega,λi j h1 h2=>by omega,λi hi=>by omega,λi hi=>by omega,λi j h1 h2=>by omega,λk a b j hj=>by omega⟩;have:=QG (n:=n) (B:=B) (f:=f) columns H h
 grind
def ldZ(L:Nat->Nat)(m:Mz):Nat->Nat->List (Nat×Ve)
 |0,_=>[]
 |r+1,i=>(L i,ve (nth [] m i))::ldZ L m r (i+1)
theorem uI{L:Nat->Nat}{m:Mz}:∀{r i:Nat} {x},x∈ldZ L m r i->∃k,i<=k∧k<i+r∧x=(L k,ve (nth [] m k))
 |0,i,x,h=>by trivial
 | r+1,i,x,h=>by
  simp only[ldZ,Zy]at h;rcases h with rfl|h
  .exact⟨i,aa,aa,rfl⟩
  .obtain⟨k,a,b,e⟩:=uI h;exact⟨k,aa,aa,e⟩
theorem tu{n c o:Nat}{L:Nat->Nat}{m:Mz}(H:Hm n c o L m):∀(r i b:Nat),i+r=o->(i<o->b<=L i)->Hnf b (ldZ L m r i)
 |0,i,b,e,h=>trivial
 | r+1,i,b,e,h=>by
  refine⟨⟨h aa,H.pos i aa,λj hj=>H.low i aa j hj⟩,λx hx=>?_,tu H r (i+1) (L i+1) aa (λhi=>by have:=H.inc i (i+1) aa hi;omega)⟩;obtain⟨k,a1,a2,rfl⟩:=uI hx;exact H.red i k aa aa
theorem adH{c:Nat}(H:Hm n c o L m)(hc:n<=c)(h1:o<=k)(h2:k<m.length):ve (nth [] m k)=λ_=>0:=funext λj=>by
 by_cases h:j<c
 .exact H.zer k h1 h2 j h
 .show nth 0 (nth [] m k) j=0
  have:=H.ln k h2;rw[nth,Z6,List.getElem?_eq_none aa];rfl
theorem aiR{c:Nat}(H:Hm n c o L m)(hc:n<=c)(v:Ve):Spn (vs (ldZ L m o 0)) v↔SpZ m v:=by
 have key:∀r i k,i<=k->k<i+r->ve (nth [] m k)∈vs (ldZ L m r i):=by
  intro r
  induction r with
  |zero=>omega
  | succ r ih=>
   intro i k a b;simp only[vs,ldZ,Zs,Zy];by_cases e:k=i
   .exact .inl (by rw[e])
   .exact .inr (ih (i+1) k aa aa)
 constructor
 .intro h;refine Spn.le (λg hg=>?_) h;obtain⟨x,hx,rfl⟩:=Zw.1 hg;obtain⟨k,a1,a2,rfl⟩:=uI hx;exact ik (by have:=H.le;omega)
 .intro h;refine Spn.le (λg hg=>?_) h;obtain⟨r,hr,rfl⟩:=Zw.1 hg;obtain⟨k,hk,rfl⟩:=Zf.1 hr;have e:m[k]=nth [] m k:=by rw[nth,Z6,List.getElem?_eq_getElem hk];rfl
  rw[e];by_cases hko:k<o
  .exact Spn.mem (key o 0 k aa aa)
  .rw[adH H hc aa hk];exact Spn.zero _
theorem adI{a b:LiQ}(hl:a.length=b.length)(h:ve a=ve b):a=b:=by
 refine Wo hl λi h1 h2=>?_
 have:=congrFun h i
 grind[ve,nth]
theorem xq(L:Nat->Nat)(m:Mz):∀r i,(ldZ L m r i).length=r
 |0,_=>rfl
 |r+1,i=>by simp[ldZ,xq L m r (i+1)]
theorem Qx{L L':Nat->Nat}{m m':Mz}:∀{r i:Nat},ldZ L m r i=ldZ L' m' r i->∀k,i<=k->k<i+r->ve (nth [] m k)=ve (nth [] m' k)
 |0,i,_,k,a,b=>by omega
 | r+1,i,h,k,a,b=>by
  simp only[ldZ,List.cons.injEq,Z5]at h;by_cases e:k=i
  .grind
  .exact Qx h.2 k aa aa
def dtV:Nat->Ve->Ve->Int
 |0,_,_=>0
 |n+1,a,b=>dtV n a b+a n*b n
theorem xx(a u v:Ve):∀n,dtV n a (λi=>u i+v i)=dtV n a u+dtV n a v
 |0=>rfl
 |n+1=>by simp only[dtV,xx a u v n];grind
theorem uV(a u:Ve)(k:Int):∀n,dtV n a (λi=>k*u i)=k*dtV n a u
 |0=>by simp[dtV]
 |n+1=>by simp only[dtV,uV a u k n];grind
theorem qE(a:Ve):∀n,dtV n a (λ_=>0)=0
 |0=>rfl
 |n+1=>by simp[dtV,qE a n]
theorem qF(a b:Ve):∀n,dtV n a b=dtV n b a
 |0=>rfl
 |n+1=>by simp only[dtV,qF a b n];grind
def Krn(n:Nat)(S:Ve->Prop)(v:Ve):Prop:=(∀u,S u->dtV n u v=0)∧∀j,n<=j->v j=0
theorem Fh{S T:Ve->Prop}(h:∀u,S u->T u)(hv:Krn n T v):Krn n S v:=⟨λu hu=>hv.1 u (h u hu),hv.2⟩
theorem SN{S:Ve->Prop}(hS:∀u,S u->∀j,n<=j->u j=0)(v:Ve):Krn n (Krn n (Krn n S)) v↔Krn n S v:=by
 constructor
 .exact λh=>Fh (λu hu=>⟨λw hw=>by rw[qF];exact hw.1 u hu,hS u hu⟩) h
 .exact λh=>⟨λu hu=>by rw[qF];exact hu.1 v h,h.2⟩
theorem Dz:∀{m:List Ve},(∀g∈m,dtV n g v=0)->∀{u},Spn m u->dtV n u v=0
 | m,h,u,⟨ks,e⟩=>by
  subst e;rw[qF]
  induction m generalizing ks with
  |nil=>cases ks<;>exact qE v n
  | cons g m ih=>
   cases ks with
   |nil=>exact qE v n
   | cons k ks=>
    have e:cmb (k::ks) (g::m)=λi=>(λi=>k*g i) i+cmb ks m i:=rfl
    rw[e,xx,uV,ih (λx hx=>h x (by simp[hx])) ks,qF v g,h g ac];simp
theorem tI(n:Nat)(m:Mz):(lG n m).length=n:=by simp[lG]
theorem Kw{c:Nat}(hc:c<n):nth [] (lG n m) c=m.map (λr=>nth 0 r c)++(List.replicate n (0:Int)).set c 1:=by rw[nth,Z6,lG,List.getElem?_map,List.getElem?_range hc];rfl
theorem yX{c:Nat}(hc:c<n)(i:Nat):ve (nth [] (lG n m) c) i=if i<m.length then ve (nth [] m i) c else if i=m.length+c then 1 else 0:=by
 rw[Kw hc]
 show nth 0 _ i=_
 by_cases h:i<m.length
 .rw[if_pos h,nth,Z6,List.getElem?_append_left (by grind),List.getElem?_map,List.getElem?_eq_getElem h];have e:nth [] m i=m[i]:=by rw[nth,Z6,List.getElem?_eq_getElem h];rfl
  rw[e];rfl
 .rw[if_neg h,nth,Z6,List.getElem?_append_right (by grind),List.length_map,List.getElem?_set,Y8];by_cases e:i=m.length+c
  .rw[if_pos aa,if_pos hc,if_pos e];rfl
  .rw[if_neg aa,if_neg e,List.getElem?_replicate]
   grind
def Wid(n:Nat)(m:Mz)(v:Ve):Prop:=(∀i,i<m.length->v i=dtV n (ve (nth [] m i)) λc=>v (m.length+c))∧∀j,m.length+n<=j->v j=0
theorem Wid.add(hu:Wid n m u)(hv:Wid n m v):Wid n m λi=>u i+v i:=
 ⟨λi hi=>by
  show u i+v i=dtV n _ λc=>u (m.length+c)+v (m.length+c)
  rw[hu.1 i hi,hv.1 i hi,<-xx],λj hj=>by simp only[hu.2 j hj,hv.2 j hj];rfl⟩
theorem Wid.mul(k:Int)(hu:Wid n m u):Wid n m λi=>k*u i:=
 ⟨λi hi=>by
  show k*u i=dtV n _ λc=>k*u (m.length+c)
  rw[hu.1 i hi,<-uV],λj hj=>by simp only[hu.2 j hj];simp⟩
theorem Wid.zero(n:Nat)(m:Mz):Wid n m λ_=>0:=⟨λi hi=>(qE _ _).symm,λ_ _=>rfl⟩
theorem Aj(a:Ve)(c:Nat):∀n,dtV n a (λj=>if j=c then 1 else 0)=if c<n then a c else 0
 |0=>rfl
 | n+1=>by
  simp only[dtV,Aj a c n];by_cases h:n=c
  .grind
  .rw[if_neg h];by_cases g:c<n
   .rw[if_pos g,if_pos aa];simp
   .rw[if_neg g,if_neg aa];simp
theorem aaH{c:Nat}(hc:c<n):Wid n m (ve (nth [] (lG n m) c)):=by
 refine⟨λi hi=>?_,λj hj=>?_⟩
 ·have e:(λx=>ve (nth [] (lG n m) c) (m.length+x))=λj=>if j=c then 1 else 0:=funext λx=>by
   rw[yX hc,if_neg aa];by_cases g:x=c
   .rw[if_pos aa,if_pos g]
   .rw[if_neg aa,if_neg g]
  grind[Aj,yX]
 .rw[yX hc,if_neg aa,if_neg aa]
theorem adF(h:SpZ (lG n m) v):Wid n m v:=by
 obtain⟨ks,rfl⟩:=h
 have key:∀(l:List Ve),(∀g∈l,Wid n m g)->∀ks,Wid n m (cmb ks l):=by
  intro l
  induction l with
  |nil=>intro _ ks;cases ks<;>exact Wid.zero n m
  | cons g l ih=>
   intro hg ks;cases ks with
   |nil=>exact Wid.zero n m
   |cons k ks=>exact((hg g ac).mul k).add (ih (λx hx=>hg x (by grind)) ks)
 refine key _ (λg hg=>?_) ks;obtain⟨r,hr,rfl⟩:=Zw.1 hg;obtain⟨c,hc,rfl⟩:=Zf.1 hr;have hc':c<n:=by rw[tI]at hc;exact hc
 have e:(lG n m)[c]=nth [] (lG n m) c:=by rw[nth,Z6,List.getElem?_eq_getElem hc];rfl
 grind[aaH]
theorem Kx{n:Nat}{m:Mz}(v:Ve):∀t,t<=n->∃s,SpZ (lG n m) s∧(∀i,i<m.length->s i=dtV t (ve (nth [] m i)) λc=>v (m.length+c))∧(∀c,c<t->s (m.length+c)=v (m.length+c))∧∀c,t<=c->s (m.length+c)=0
 |0,_=>⟨λ_=>0,Spn.zero _,λi hi=>rfl,λc hc=>by omega,λc hc=>rfl⟩
 | t+1,ht=>by
  obtain⟨s,h1,h2,h3,h4⟩:=Kx (n:=n) (m:=m) v t aa;have hr:SpZ (lG n m) (ve (nth [] (lG n m) t)):=ik (m:=lG n m) (i:=t) (by grind[tI]);have e1:=λi=>yX (n:=n) (m:=m) (c:=t) aa i
  refine⟨λi=>s i+v (m.length+t)*ve (nth [] (lG n m) t) i,h1.add (hr.mul _),λi hi=>?_,λc hc=>?_,λc hc=>?_⟩
  .grind[dtV]
  .show s (m.length+c)+v (m.length+t)*ve (nth [] (lG n m) t) (m.length+c)=_
   rw[e1,if_neg aa];by_cases g:c=t
   .grind
   .rw[h3 c aa,if_neg aa];simp
  .show s (m.length+c)+v (m.length+t)*ve (nth [] (lG n m) t) (m.length+c)=_
   rw[e1,if_neg aa,h4 c aa,if_neg aa];simp
theorem adE(h:Wid n m v):SpZ (lG n m) v:=by
 obtain⟨s,h1,h2,h3,h4⟩:=Kx (n:=n) (m:=m) v n (Z8 _)
 have e:s=v:=funext λi=>by
  by_cases hi:i<m.length
  .rw[h2 i hi,h.1 i hi]
  .obtain⟨c,rfl⟩:∃c,i=m.length+c:=⟨i-m.length,aa⟩;by_cases hc:c<n
   .grind
   .rw[h4 c aa,h.2 _ aa]
 grind
theorem G9(v:Ve):SpZ (lG n m) v↔Wid n m v:=⟨adF,adE⟩
theorem yG:∀{m:List (Nat×Ve)}{o:Nat},Hnf o m->∀(k:Nat){v:Ve},Spn (vs m) v->(∀j,j<k->v j=0)->Spn (vs (m.filter λx=>decide (k<=x.1))) v
 |[],o,H,k,v,hv,h0=>hv
 | (l,h)::m,o,H,k,v,hv,h0=>by
  by_cases g:k<=l
  ·have e:((l,h)::m).filter (λx=>decide (k<=x.1))=(l,h)::m:=List.filter_eq_self.2 λx hx=>by
    rcases Zy.1 hx with rfl|hx
    .simpa using g
    .have:=yF H.2.2 x hx;simp only[decide_eq_true_eq];omega
   rw[e];exact hv
  ·have e:((l,h)::m).filter (λx=>decide (k<=x.1))=m.filter (λx=>decide (k<=x.1)):=by
    rw[List.filter_cons_of_neg (by simpa using g)]
   rw[e];exact yG H.2.2 k (zR H hv (h0 l aa)) h0
def BdE(E:Nat)(m:Mz):Prop:=∀i j,(eZ m i j).natAbs<=E
theorem BdE.mono(h:E<=E')(b:BdE E m):BdE E' m:=λi j=>Z4 (b i j) h
theorem JO{a b:Int}(h:0<b):0<=a.fmod b∧a.fmod b<b:=⟨Int.fmod_nonneg_of_pos a h,Int.fmod_lt_of_pos a h⟩
theorem YA{a b:Int}(h:b<0):b<a.fmod b∧a.fmod b<=0:=by
 have:=JO (a:=-a) (b:=-b) aa
 simp_all
theorem YG{a b:Int}(h:b≠0):(a.fdiv b).natAbs<=a.natAbs:=by
 have key:∀(a b:Int),0<b->(a.fdiv b).natAbs<=a.natAbs:=λa b hb=>by
  have h1:=Int.mul_fdiv_add_fmod a b;have h2:=JO (a:=a) hb;generalize a.fdiv b=q at *;generalize a.fmod b=r at *;rcases Wv q 0 with hq|hq|hq
  .have h4:b*(-q)≥1*(-q):=X8 aa aa;have h5:b*(-q) = -(b*q):=Int.mul_neg ..;rcases Wv a 0 with ha|ha|ha
   .have h6:b*(-q-1)≥1*(-q-1):=X8 aa aa;have h7:b*(-q-1) = -(b*q)-b:=by rw[Int.mul_sub];omega
    omega
   .have h6:b*(-q)≥b*1:=Int.mul_le_mul_of_nonneg_left aa aa;omega
   .have h6:b*(-q)≥b*1:=Int.mul_le_mul_of_nonneg_left aa aa;omega
  .omega
  .have h4:b*q≥1*q:=X8 aa aa;omega
 rcases Wv b 0 with hb|hb|hb
 .have:=key (-a) (-b) aa
  simp_all
 .omega
 grind
theorem aaq{B:Nat}(h:BdE E m)(hE:E<10^B):(m.all λa=>bdZ B a)=true:=by
 rw[Zz];intro r hr;obtain⟨i,hi,rfl⟩:=Zf.1 hr
 show(m[i].all λx=>decide (x.natAbs<10^B))=true
 rw[Zz];intro x hx;obtain⟨j,hj,rfl⟩:=Zf.1 hx;have:=h i j
 grind[nth]
theorem Ec{c r:Nat}{Q:Nat}(S:ID n c o i r m m')(h:BdE E m)(hq:∀k,i<=k->k<i+r->((eZ m k c).fdiv (eZ m o c)).natAbs<=Q):BdE (E*(1+Q)) m':=λk j=>by
 have hE:E<=E*(1+Q):=Y5 _ aa;by_cases hk:i<=k∧k<i+r
 .rw[S.inn k hk.1 hk.2 j];have h1:=Int.natAbs_sub_le (eZ m k j) ((eZ m k c).fdiv (eZ m o c)*eZ m o j);rw[Zm]at h1;have h2:=Zu (hq k hk.1 hk.2) (h o j);have h3:=h k j
  grind
 .have:eZ m' k j=eZ m k j:=by simp only[eZ,S.out k aa]
  rw[this];exact Z4 (h k j) hE
theorem ac3{a:Nat}(ho:o<m.length)(ha:a<m.length)(h:BdE E m):BdE E (swZ m o a):=λk j=>by
 simp only[eZ,uu ho ha];split
 .exact h o j
 .split
  .exact h a j
  .exact h k j
theorem agf{c:Nat}(ho:o<m.length)(h:BdE E m):BdE E (ngZ c o m):=λk j=>by
 simp only[eZ,wI ho];split
 .rw[zu];have:=h o j
  grind
 .exact h k j
theorem aav(c:Nat)(m:Mz)(o:Nat):∀(r i:Nat)(a:Int),(0<=a->∀k,o<=k->k<i->eZ m k c≠0->(eZ m a.toNat c).natAbs<=(eZ m k c).natAbs)->(a<0->∀k,o<=k->k<i->eZ m k c=0)->o<=i ->
  0<=aZ c m r i a->∀k,o<=k->k<i+r->eZ m k c≠0->(eZ m (aZ c m r i a).toNat c).natAbs<=(eZ m k c).natAbs
 |0,i,a,h,_,hi=>by trivial
 | r+1,i,a,h,h0,hi=>by
  have key:aZ c m (r+1) i a=aZ c m r (i+1) (if eZ m i c≠0∧(a<0∨(eZ m i c).natAbs<(eZ m a.toNat c).natAbs)then i else a):=rfl;rw[key];have e:i+1+r=i+(r+1):=aa;rw[<-e];refine aav c m o r (i+1) _ ?_ ?_ aa
  .split
   .rename_i g;intro _ k a1 a2 hk;by_cases ek:k=i
    .grind
    .rcases g.2 with g2|g2
     .exact absurd (h0 g2 k a1 aa) hk
     .by_cases ha:0<=a
      .grind
      .exact absurd (h0 aa k a1 aa) hk
   .rename_i g;intro ha k a1 a2 hk;by_cases ek:k=i
    .grind
    .exact h ha k a1 aa hk
  .split
   .omega
   .rename_i g;intro ha k a1 a2;by_cases ek:k=i
    .grind
    .exact h0 ha k a1 aa
theorem yf{n c o:Nat}:∀(r i:Nat)(b:Bool){m:Mz},Ln n m->o<m.length->i+r<=m.length->(o<i∨i+r<=o)->(Cs c o r i b m).1=true->b=true∨∃k,i<=k∧k<i+r∧(eZ m k c).fmod (eZ m o c)≠0
 |0,i,b,m,hl,ho,hi,hoi,h=>.inl h
 | r+1,i,b,m,hl,ho,hi,hoi,h=>by
  have ih:=yf (c:=c) r (i+1) (b||decide ((eZ m i c).fmod (eZ m o c)≠0)) (m:=tkZ c o m i) (Jy hl aa ho) (by grind[rT]) (by grind[rT]) aa h;rcases ih with ih|⟨k,a1,a2,a3⟩
  .grind
  .have eo:nth [] (tkZ c o m i) o=nth [] m o:=qp aa aa;have ek:nth [] (tkZ c o m i) k=nth [] m k:=qp aa aa;simp only[eZ,eo,ek]at a3;exact .inr ⟨k,aa,aa,a3⟩
theorem C6(B c f o:Nat)(m:Mz):rdZ B c (f+1) o m=if(m.all λa=>bdZ B a)=true then
   (if aZ c m (m.length-o) o (-1)<0 then some (o,m)else
    if(Cs c o (m.length-(o+1)) (o+1) false (swZ m o (aZ c m (m.length-o) o (-1)).toNat)).1=true then rdZ B c f o (Cs c o (m.length-(o+1)) (o+1) false (swZ m o (aZ c m (m.length-o) o (-1)).toNat)).2
    else some (o+1,upZ c o o 0 (ngZ c o (Cs c o (m.length-(o+1)) (o+1) false (swZ m o (aZ c m (m.length-o) o (-1)).toNat)).2)))else none:=rfl
theorem I9{B c:Nat}:∀(f g:Nat){o:Nat}{m:Mz}{r:Nat×Mz},rdZ B c f o m=some r->f<=g->rdZ B c g o m=some r
 |0,g,o,m,r,h,_=>by cases h
 |f+1,0,o,m,r,h,hg=>by omega
 | f+1,g+1,o,m,r,h,hg=>by
  rw[C6]at h ⊢;split at h
  .rename_i h1;rw[if_pos h1];split at h
   .grind
   .rename_i h2;rw[if_neg h2];split at h
    .rename_i h3;rw[if_pos h3];exact I9 f g h aa
    grind
  .cases h
theorem YP{c:Nat}(hl:Ln n m)(ho:o<m.length)(h0:eZ m o c≠0)(h:BdE E m):BdE (2*E*E) (upZ c o o 0 (ngZ c o m)):=by
 have h1:=agf (c:=c) ho h;have l1:(ngZ c o m).length=m.length:=Bi c o m
 have h2:eZ (ngZ c o m) o c≠0:=by
  simp only[eZ,wI ho];split
  .grind[zu]
  .exact h0
 have hE:1<=E:=by have:=h o c;omega
 refine BdE.mono ?_ (Ec (Q:=E) (IK (c:=c) o 0 (V6 hl ho) aa aa (.inr aa)) h1 (λk _ _=>Z4 (YG h2) (h1 k c)));rw[Zl,Yp,Nat.mul_assoc,Nat.two_mul];have:E*1<=E*E:=Z1 _ hE;omega
theorem adO{p:Nat}(h:p<=M):2*p*(M-p)<=M*M:=by
 obtain⟨d,rfl⟩:∃d,M=p+d:=⟨M-p,aa⟩
 grind
theorem aig{p p':Nat}(h0:0<p)(h:p<=M)(h1:p'<=p)(h2:M/p=1->p'<=M-p):(1+M/p)*p*p'<=M*M:=by
 have hq:1<=M/p:=(Xd h0).2 aa;have hm:M/p*p<=M:=Wl M p;by_cases e:M/p=1
 .have:=h2 e;rw[e];exact Z4 (Z1 _ this) (adO h)
 .generalize M/p=q at *
  have h3:1+q<=q*q:=by
   have:2*q<=q*q:=Zv _ aa;omega
  calc (1+q)*p*p'<=q*q*p*p:=Zu (Zv _ h3) h1
   _=(q*p)*(q*p):=by rw[Nat.mul_assoc q q p,Nat.mul_assoc q (q*p) p,Nat.mul_assoc q p p,Nat.mul_assoc q p (q*p),Y3 p q p]
   _<=M*M:=Zu hm hm
structure aaC(n c o:Nat)(s:Int)(E M:Nat)(m:Mz):Prop where
 ln:Ln n m
 ho:o<m.length
 hs:s=1∨s = -1
 col:∀k,o<=k->k<m.length->0<=s*eZ m k c∧s*eZ m k c<=M
 bd:BdE E m
theorem ad3{B c W:Nat}(hW:W<10^B){s:Int}:∀(p:Nat){E M:Nat}{m:Mz},aaC n c o s E M m->1<=E->(∃k,o<=k∧k<m.length∧eZ m k c≠0∧(eZ m k c).natAbs<=p)->2*E*(M*M)*p<=W ->
  ∃f o' m',rdZ B c f o m=some (o',m')∧BdE (2*W*W) m'∧o'=o+1:=by
 intro p
 induction p using Nat.strongRecOn with
 |ind p ih=>
 intro E M m S hE ⟨k0,k1,k2,k3,k4⟩ hw;have ho:=S.ho;have A:=DN c m o (m.length-o) o (-1) (.inl ⟨aa,λk a b=>by omega⟩) (Z8 _);have A2:=aav c m o (m.length-o) o (-1) (λh=>by omega) (λ_ k a b=>by omega) (Z8 _);obtain⟨a,ha⟩:=nmQ (aZ c m (m.length-o) o (-1));rw[<-ha]at A A2;rcases A with⟨_,A⟩|⟨a1,a2,a3⟩
 .exact absurd (A k0 k1 aa) k3
 have hi:a.toNat<m.length:=aa;have amin:=A2 aa;obtain⟨p0,hp0⟩:=nmQ ((eZ m a.toNat c).natAbs);have p0p:p0<=p:=by rw[hp0];exact Z4 (amin k0 k1 aa k3) k4
 have p0pos:0<p0:=aa;have ca:=S.col a.toNat aa hi;have sp0:s*eZ m a.toNat c=p0:=by rcases S.hs with h|h<;>subst h<;>omega
 have p0M:p0<=M:=aa;obtain⟨m1,h1⟩:=nmQ (swZ m o a.toNat);have l1:m1.length=m.length:=by rw[h1,wg]
 have n1:Ln n m1:=by rw[h1];exact Jz S.ln ho hi
 have e1:∀k,nth [] m1 k=if k=a.toNat then nth [] m o else if k=o then nth [] m a.toNat else nth [] m k:=λk=>by grind[uu]
 have b1:BdE E m1:=by rw[h1];exact ac3 ho hi S.bd
 have eo:eZ m1 o c=eZ m a.toNat c:=by
  simp only[eZ,e1];split
  .grind
  .rw[if_pos trivial]
 have any1:∀k,o<=k->k<m.length->∃k',o<=k'∧k'<m.length∧eZ m1 k c=eZ m k' c:=λk q1 q2=>by
  simp only[eZ,e1];split
  .grind
  .split
   .exact⟨a.toNat,aa,hi,rfl⟩
   grind
 obtain⟨Q,hQ⟩:=nmQ (M/p0)
 -- a row behind
 have row:∀k,o<=k->k<m.length->0<=(eZ m1 k c).fdiv (eZ m1 o c)∧((eZ m1 k c).fdiv (eZ m1 o c)).natAbs<=Q∧0<=s*(eZ m1 k c).fmod (eZ m1 o c)∧s*(eZ m1 k c).fmod (eZ m1 o c)<p0 ∧
   s*eZ m1 k c=p0*(eZ m1 k c).fdiv (eZ m1 o c)+s*(eZ m1 k c).fmod (eZ m1 o c)∧s*eZ m1 k c<=M:=λk q1 q2=>by
  obtain⟨k',r1,r2,r3⟩:=any1 k q1 q2;have c1:=S.col k' r1 r2;rw[<-r3]at c1;have d1:=Int.mul_fdiv_add_fmod (eZ m1 k c) (eZ m1 o c);have sp1:s*eZ m1 o c=p0:=by rw[eo];exact sp0
  have f1:0<=s*(eZ m1 k c).fmod (eZ m1 o c)∧s*(eZ m1 k c).fmod (eZ m1 o c)<p0:=by
   rcases S.hs with h|h
   .subst h;have:=JO (a:=eZ m1 k c) (b:=eZ m1 o c) aa;omega
   .subst h;have:=YA (a:=eZ m1 k c) (b:=eZ m1 o c) aa;omega
  generalize(eZ m1 k c).fdiv (eZ m1 o c)=q at *;generalize(eZ m1 k c).fmod (eZ m1 o c)=r at *;have g1:s*eZ m1 k c=p0*q+s*r:=by rw[<-d1,Int.mul_add,<-Int.mul_assoc,sp1]
  have q0:0<=q:=by
   rcases Int.lt_or_le q 0 with hq|hq
   .have:(p0:Int)*q<=p0*(-1):=Int.mul_le_mul_of_nonneg_left aa aa;omega
   .exact hq
  refine⟨q0,?_,f1.1,f1.2,g1,c1.2⟩;rw[hQ,Xd p0pos]
  have:(q.natAbs*p0:Int)<=M:=by
   rw[W7 q0,X0];omega
  omega
 have SW:=ut (n:=n) (c:=c) (o:=o) (m.length-(o+1)) (o+1) false n1 aa aa (.inl aa);have SR:=yf (n:=n) (c:=c) (o:=o) (m.length-(o+1)) (o+1) false n1 aa aa (.inl aa);obtain⟨s2,hs2⟩:=nmQ (Cs c o (m.length-(o+1)) (o+1) false m1);rw[<-hs2]at SW SR;obtain⟨SW,_⟩:=SW
 have b2:BdE (E*(1+Q)) s2.2:=Ec SW b1 λk q1 q2=>(row k aa aa).2.1
 have l2:s2.2.length=m.length:=by rw[SW.len,l1]
 have eo2:eZ s2.2 o c=eZ m1 o c:=by simp only[eZ,SW.out o (.inl aa)]
 have M1:1<=M:=aa
 have hEW:E*(1+Q)<=W:=by
  refine Z4 ?_ hw;have hQM:Q<=M:=by rw[hQ];exact Yu M p0
  have t1:M*1<=M*M:=Z1 _ M1;have t2:E*(1+Q)<=E*(2*(M*M)):=Z1 _ aa;have t3:E*(2*(M*M))*1<=E*(2*(M*M))*p:=Z1 _ aa;rw[Zo 2 E,Nat.mul_assoc E 2];omega
 have hE2:E<=E*(1+Q):=Y5 _ aa;have hall:=aaq (B:=B) S.bd aa
 have step:∀f,rdZ B c (f+1) o m=if s2.1=true then rdZ B c f o s2.2 else some (o+1,upZ c o o 0 (ngZ c o s2.2)):=λf=>by
  rw[C6,if_pos hall,<-ha,if_neg aa,<-h1,<-hs2]
 cases hb:s2.1 with
 | false=>
  refine⟨1,_,_,by rw[step,hb];rfl,?_,rfl⟩;refine BdE.mono ?_ (YP (c:=c) SW.ln aa aa b2);exact Zu (Z1 _ hEW) hEW
 | true=>
  rcases SR hb with h|⟨k,q1,q2,q3⟩
  .cases h
  obtain⟨r1,r2,r3,r4,r5,r6⟩:=row k aa aa;obtain⟨p',hp'⟩:=nmQ (((eZ m1 k c).fmod (eZ m1 o c)).natAbs);have sp':s*(eZ m1 k c).fmod (eZ m1 o c)=p':=by rcases S.hs with h|h<;>subst h<;>omega
  have p'lt:p'<p0:=aa
  have val:∀k,o<k->k<m.length->eZ s2.2 k c=(eZ m1 k c).fmod (eZ m1 o c):=λk a b=>by
   rw[SW.inn k aa aa c,Int.fmod_def,X0]
  have S2:aaC n c o s (E*(1+Q)) p0 s2.2:=⟨SW.ln,aa,S.hs,λk a b=>by
   by_cases hk:k=o
   .grind
   .rw[val k aa aa];have:=row k a aa;omega,b2⟩
  have hkey:(1+Q)*p0*p'<=M*M:=by
   rw[hQ];refine aig p0pos p0M aa λe=>?_
   rw[<-hQ]at e;have nz:eZ m1 k c≠0:=λhz=>q3 (by rw[hz,Int.zero_fmod])
   obtain⟨k',t1,t2,t3⟩:=any1 k aa aa;have hm:=amin k' t1 aa aa;rw[<-t3,<-hp0]at hm
   have hx:s*eZ m1 k c=(eZ m1 k c).natAbs:=by
    have:0<=s*eZ m1 k c:=by
     have:=S.col k' t1 t2;rw[<-t3]at this;exact this.1
    rcases S.hs with h|h<;>subst h<;>omega
   generalize(eZ m1 k c).fdiv (eZ m1 o c)=q at *
   have q1:q=1:=by
    rcases Int.lt_or_le q 1 with h|h
    .grind
    .omega
   subst q1;omega
  obtain ⟨f,o',m',g1,g2,g3⟩:=ih p' aa S2 aa ⟨k,aa,aa,by rw[val k aa aa];exact q3,by rw[val k aa aa];omega⟩ (by
   refine Z4 ?_ hw
   calc 2*(E*(1+Q))*(p0*p0)*p'=2*E*p0*((1+Q)*p0*p'):=by grind
    _<=2*E*p0*(M*M):=Z1 _ hkey
    _<=2*E*p*(M*M):=Zv _ (Z1 _ p0p)
    _=2*E*(M*M)*p:=by grind)
  exact⟨f+1,o',m',by rw[step,hb,if_pos rfl];exact g1,g2,g3⟩
end Go.Vm
