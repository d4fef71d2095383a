/- Lemmas. -/
import Derived.Test.YtmfphhiejjamaabGreatDoorQRefRow
set_option linter.unusedVariables false
set_option linter.unusedSimpArgs false
namespace Go.Vm
open Go Go.Am Go.Big
variable{p L r c P y t r' to fr:LiQ}{ts:List (Int×Int)}{d b n k E G m i A v j:Nat}{most z C:Int}{s bd:List Q}{x w:Q}{ch:List LLQ}
theorem BS:∀(r low high out a:Nat),vB r low high out=some a->a<(out+1)*2^r
 |0,low,high,out,a,h=>by simp only[vB,Z9]at h;subst h;simp
 | r+1,low,high,out,a,h=>by
  have e:∀x:Nat,(x+1)*2^(r+1)=(2*x+2)*2^r:=fun x=>by rw[Nat.pow_succ,Zt (2^r) 2,<-Nat.mul_assoc];congr 1;omega
  rw[e];simp only[vB]at h;cases c1:Nat.ble E63 (low*low/E62)with
  | true=>
   rw[c1]at h;have:=BS r _ _ _ a h
   rwa [show out*2+1+1=2*out+2 by omega]at this
  | false=>
   rw[c1]at h;cases c2:Nat.ble E63 (high*high/E62+1)with
   |true=>rw[c2]at h;cases h
   | false=>
    rw[c2]at h;have:=BS r _ _ _ a h;exact Z1 this (Zz _ aa)
theorem V1{p a:Nat}(hp:2<=p)(hp2:p<1000000)(h:AI p=some a):a<1342177280:=by
 obtain⟨hk0,hpk,hk1⟩:=pD (n:=p) aa
 have hk20:aY p<=20:=by
  have:2^(aY p-1)<2^20:=aa;have:=(Yw (by decide:1<2)).1 this;omega
 have:=BS _ _ _ _ _ h;have h2:(aY p-1+1)*2^26<=20*2^26:=Zz _ aa;omega
theorem adY(x y:Int):mx2 false x y=min x y:=by unfold mx2;simp;omega
theorem Od(x y:Int):mx2 true x y=max x y:=by unfold mx2;simp;omega
def oL(most:Int):List (Int×Int)->Int×Int->Option (Int×Int)
 |[],a=>some a
 | t::ts,a=>if most<t.2∨t.2 < -most then none else match AI t.1.toNat with
  |none=>none
  | some f=>
   let b:Int:=if t.1=2 then f else f+1
   oL most ts (a.1+min (t.2*f) (t.2*b),a.2+max (t.2*f) (t.2*b))
def neV:Option (Int×Int)->V
 |some a=>.tup [I a.1,I a.2,B true]
 |none=>.tup [I 0,I 0,B false]
def rI(ts:List (Int×Int))(d:Nat)(n lo hi:Int)(b:Bool):Hp:=[(1,.vars ((tmD ts d).map .d)),(1,.vars [I n]),(1,.vars [I lo]),(1,.vars [I hi]),(1,.vars [B b])]
theorem Eb{d:Nat}{most:Int}(hm0:0<=most)(hm:most<=10000000){tt:List (Int×Int)}(k:Exit->Hp->Prop)(h0:Hp)(hh:h0.length=5):∀(ts:List (Int×Int))(lo hi B:Int),(∀t∈ts,2<=t.1∧t.1<1000000∧t.2.natAbs<9223372036854775808)->B+ts.length*13421772810000000<=9000000000000000000->-B<=lo->lo<=B->-B<=hi->hi<=B ->
  (∀a,oL most ts (lo,hi)=some a->k .normal (rI tt d most a.1 a.2 false))->(oL most ts (lo,hi)=none->k .ret (rI tt d most 0 0 false)) ->
  rg 2 (dW (CX Y) (.ptr 1 1 0 1) (.ptr 2 1 0 1) (.ptr 3 1 0 1) (.ptr 4 1 0 1)) [] h0 k (tmX ts) (rI tt d most lo hi false)
 | [],lo,hi,Bd,hl,hb,h1,h2,h3,h4,hk,hn=>by
  simpa[tmX,rg]using hk (lo,hi) rfl
 | t::ts,lo,hi,Bd,hl,hb,h1,h2,h3,h4,hk,hn=>by
  obtain⟨l1,l2,l3⟩:=hl t af;have sm:=Rc (z:=t.2) l3;obtain⟨p,hp⟩:∃p:Nat,t.1=p:=⟨t.1.toNat,aa⟩;have hpn:t.1.toNat=p:=aa;have fa:=fast_ok (p:=p) aa aa;rw[<-hp]at fa;have eL:([.int .i64 t.1,.string ⟨⟨itoa t.2⟩⟩]:LvQ).map (fun v=>V.d (jp v))=[I t.1,S (itoa t.2)]:=rfl;simp only[oL,hpn]at hk hn
  have hlen:∀x:Hp,x.length=5->au [] 0 h0 x=x:=fun x hx=>aX 0 h0 x aa
  simp only[tmX,Z2];refine IW rfl ?_;rw[eL];by_cases c1:most<t.2
  .rw[if_pos (.inl c1)]at hn;simp[dW,rI,tmD];refine cd sm ?_ (by simp[aS,bJ]);simp[c1];simpa[rI,tmD]using hn rfl
  .by_cases c2:t.2 < -most
   .rw[if_pos (.inr c2)]at hn;simp[dW,rI,tmD];refine cd sm ?_ (by simp[aS,bJ]);simp(disch:=try exact ag)[c1,c2];simpa[rI,tmD]using hn rfl
   .rw[if_neg aa]at hn;simp only[show ¬(most<t.2∨t.2 < -most) by omega,if_false]at hk;cases hf:AI p with
    | none=>
     rw[hf]at fa hn;simp[dW,rI,tmD];refine cd sm ?_ (by simp[aS,bJ]);simp(disch:=try exact ag)[c1,c2];refine cd fa ?_;simp[V2];simpa[rI,tmD]using hn rfl
    | some f=>
     have hflt:=V1 aa aa hf;rw[hf]at fa hk hn;simp only at hk hn;obtain⟨b,hb'⟩:∃b:Int,b=(if t.1=2 then(f:Int)else f+1):=⟨_,rfl⟩;rw[<-hb']at hk hn;have hbb:(f:Int)<=b∧b<=f+1:=by subst hb';split<;>omega
     obtain⟨x,hx⟩:∃x:Int,x=t.2*f:=⟨_,rfl⟩;obtain⟨y,hy⟩:∃y:Int,y=t.2*b:=⟨_,rfl⟩
     have bd:∀z:Int,0<=z->z<=1342177281->-13421772810000000<=t.2*z∧t.2*z<=13421772810000000:=by
      intro z hz0 hz;have a1:t.2*z<=10000000*z:=Xs aa hz0;have a2:(-10000000)*z<=t.2*z:=Xs aa hz0;omega
     have bx:=bd f aa aa;have by_:=bd b aa aa;rw[<-hx]at bx hk hn;rw[<-hy]at by_ hk hn;have ih:=Eb (tt:=tt) (d:=d) hm0 hm k h0 hh ts (lo+min x y) (hi+max x y) (Bd+13421772810000000) (fun t ht=>hl t (by simp[ht])) (by simp at hb;omega) aa aa aa aa hk hn;simp at hb
     have m1:biI .mul (I t.2) (I (f:Int))=some (I x):=by rw[vJ,<-hx,wrap_i64 ⟨aa,aa⟩]
     have m2:biI .mul (I t.2) (I b)=some (I y):=by rw[vJ,<-hy,wrap_i64 ⟨aa,aa⟩]
     have tail:∀q:Exit->Hp->Prop,q .normal (rI tt d most (lo+min x y) (hi+max x y) false)->jn (fun l26 h=>
       bnd (ld1 h (.ptr 2 1 0 1)) fun v28=>
       bnd (biI .mul (I t.2) (I (f:Int))) fun v29=>
       bnd (biI .mul (I t.2) (ge l26 0)) fun v30=>
       bnd (mxI false [v29,v30]) fun v31=>
       bnd (biI .add v28 v31) fun v32=>
       bnd (ld1 h (.ptr 3 1 0 1)) fun v33=>
       bnd (biI .mul (I t.2) (I (f:Int))) fun v34=>
       bnd (biI .mul (I t.2) (ge l26 0)) fun v35=>
       bnd (mxI true [v34,v35]) fun v36=>
       bnd (biI .add v33 v36) fun v37=>
       sp h (.ptr 2 1 0 1) [.ptr 3 1 0 1]<|stD h 1 (.ptr 2 1 0 1) v32 fun _ h=>
       stD h 1 (.ptr 3 1 0 1) v37 fun _ h=>
       q .normal h) fun q27=>q27 [I b] (rI tt d most lo hi false):=by
      intro q hq;rw[L3 (l:=[I b]) (h:=rI tt d most lo hi false) (fun q=>rfl)];have x1:mxI false [I x,I y]=some (I (min x y)):=by simp only[mxI,adY]
      have x2:mxI true [I x,I y]=some (I (max x y)):=by simp only[mxI,Od]
      have a1:biI .add (I lo) (I (min x y))=some (I (lo+min x y)):=by rw[x9,wrap_i64 ⟨aa,aa⟩]
      have a2:biI .add (I hi) (I (max x y))=some (I (hi+max x y)):=by rw[x9,wrap_i64 ⟨aa,aa⟩]
      generalize lo+min x y=lo2 at *;generalize hi+max x y=hi2 at *;simp[rI,tmD,m1,m2,x1,x2,a1,a2];refine Hd (by rfl) ?_;simpa[rI,tmD]using hq
     have hne1:biI .add (I (f:Int)) (.d (.int .i64 1))=some (I ((f:Int)+1)):=by rw[x9,wrap_i64 ⟨aa,aa⟩]
     have fin:qk [] 0 (rI tt d most (lo+min x y) (hi+max x y) false)=true∧rg 2 (dW (CX Y) (.ptr 1 1 0 1) (.ptr 2 1 0 1) (.ptr 3 1 0 1) (.ptr 4 1 0 1)) [] h0 k (tmX ts) (au [] 0 h0 (rI tt d most (lo+min x y) (hi+max x y) false)):=by
      rw[hlen _ (by rfl)];exact⟨by simp[rI,tmD,Lw,Lv,dw,Lz,dT,kH],ih⟩
     simp[dW,rI,tmD];refine cd sm ?_ (by simp[aS,bJ]);simp(disch:=try exact ag)[c1,c2];refine cd fa ?_
     have tl:=tail (fun ex h'=>match ex with
      |.normal=>qk [] 0 h'=true∧rg 2 (dW (CX Y) (.ptr 1 1 0 1) (.ptr 2 1 0 1) (.ptr 3 1 0 1) (.ptr 4 1 0 1)) [] h0 k (tmX ts) (au [] 0 h0 h')
      |ex=>k ex h') fin
     rw[L3 (l:=[I b]) (h:=rI tt d most lo hi false) (fun q=>rfl)]at tl;simp[V2,hne1];refine jD (l:=[I b]) (h:=rI tt d most lo hi false) (fun q=>?_) ?_
     .by_cases h2':t.1=2
      .rw[if_pos h2']at hb';rw[decide_eq_true h2',hb'];rfl
      .rw[if_neg h2']at hb';rw[decide_eq_false h2',hb'];rfl
     .exact tl
theorem SS(hm0:0<=most)(hm:most<=10000000)(hl:∀t∈ts,2<=t.1∧t.1<1000000∧t.2.natAbs<9223372036854775808)(hb:ts.length<=600):CP Y F.gy [tmV ts d,I most] (neV (oL most ts (0,0))):=by
 refine zN ?_;have al:=YS ts d;have al':CP Y F.fJ [.agg [.d (.sl ts.length (ts.map tmP)),.d (.sl ts.length (ts.map tmK)),S (ai d)]] (.fn F.dK [] [.dptr (tmD ts d) 0]):=al
 have nl:=Eb (d:=d) (most:=most) hm0 hm (tt:=ts) (fun ex h=>exK [(.ret,fun _ h=>
  bnd (ld1 h (.ptr 2 1 0 1)) fun v8=>
  bnd (ld1 h (.ptr 3 1 0 1)) fun v9=>
  bnd (ld1 h (.ptr 4 1 0 1)) fun v10=>
  out (neV (oL most ts (0,0))) (.tup [v8,v9,v10]) h),
  (.normal,fun _ h=>
   bnd (ld1 h (.ptr 2 1 0 1)) fun v11=>
   bnd (ld1 h (.ptr 3 1 0 1)) fun v12=>
   sp h (.ptr 2 1 0 1) [.ptr 3 1 0 1]<|stD h 1 (.ptr 2 1 0 1) v11 fun _ h=>
   stD h 1 (.ptr 3 1 0 1) v12 fun _ h=>
   stD h 1 (.ptr 4 1 0 1) (.d (.bool true)) fun _ h=>
   bnd (ld1 h (.ptr 2 1 0 1)) fun v16=>
   bnd (ld1 h (.ptr 3 1 0 1)) fun v17=>
   bnd (ld1 h (.ptr 4 1 0 1)) fun v18=>
   out (neV (oL most ts (0,0))) (.tup [v16,v17,v18]) h)] ex [] h) (rI ts d most 0 0 false) rfl ts 0 0 0 hl aa aa aa aa aa (fun a ha=>by
   rw[ha];simp[rI,tmD];refine Hd (by rfl) ?_;exact jY rfl rfl rfl) (fun ha=>by
   rw[ha];simp[rI,tmD];exact jY rfl rfl rfl)
 simp[gy,tmV];refine cd al' ?_ (by simp[aS,bJ]);simp;refine ro (ab4 aa d) ?_;simp only[rI,tmD,Z2,Xh]at nl;exact nl
def okT(ts:List (Int×Int)):Prop:=ts.length<=600∧∀t∈ts,2<=t.1∧t.1<1000000∧t.2.natAbs<9223372036854775808
theorem aaz(h:okT ts):∀t∈ts,ndg t.2.natAbs<=100000:=fun t ht=>
 Zu (cN (d:=19) (by have:=(h.2 t ht).2.2;omega) ae) ae
def qY(ts:List (Int×Int)):Int:=match oL 10000000 ts (0,0)with
 |none=>0
 |some a=>if 0<=a.1 then 1 else if a.2<=0 then -1 else 0
theorem Uk(h:okT ts):CP Y F.gP [tmV ts d] (I (qY ts)):=by
 refine yI ?_;have ne:=SS (d:=d) (most:=10000000) ae ae h.2 h.1;have ne':CP Y F.gy [.agg [.d (.sl ts.length (ts.map tmP)),.d (.sl ts.length (ts.map tmK)),S (ai d)],I 10000000] (neV (oL 10000000 ts (0,0))):=ne;simp[gP,tmV];refine cd ne' ?_ (by rfl);unfold qY;cases oL 10000000 ts (0,0)with
 | none=>
  simp[neV]
 | some a=>
  simp only;by_cases c1:0<=a.1
  .rw[if_pos c1];simp[neV,c1]
  .rw[if_neg c1];by_cases c2:a.2<=0
   .rw[if_pos c2];simp[neV,c1,c2]
   .rw[if_neg c2];simp[neV,c1,c2]
def HK(ts:List (Int×Int)):Prop:=∀i,i<6->ad5 (64*2^i) ts
def IM(ts:List (Int×Int)):Nat->Nat->Option Int
 |0,_=>none
 |r+1,n=>if 0<=(eA n ts (0,0)).1 then some 1 else if(eA n ts (0,0)).2<=0 then some (-1)else IM ts r (n*2)
def KZ(ts:List (Int×Int)):Option Int:=match ts with
 |[]=>some 0
 |_=>if qY ts≠0 then some (qY ts)else IM ts 6 64
theorem NM(z:Int):0<=sgn z↔0<=z:=by unfold sgn;split<;>(try split)<;>omega
theorem NL(z:Int):sgn z<=0↔z<=0:=by unfold sgn;split<;>(try split)<;>omega
theorem D8{ts:List (Int×Int)}{d:Nat}(h:okT ts)(hl:HK ts)(k:KL)(h0:Hp)(hh:h0.length=1):∀(r i:Nat)(s:Int),i+r=6->IM ts r (64*2^i)=some s->(∀h,k .ret [I s] h) ->
  lp (oB (CX Y) (.ptr 0 1 0 3)) [] h0 [I ((64*2^i:Nat):Int)] [(1,.vars ((tmD ts d).map .d))] k
 |0,i,s,hi,hs,hk=>by trivial
 | r+1,i,s,hi,hs,hk=>by
  have hn:64*2^i<=3900:=by
   have:2^i<=2^5:=Z4 ae aa;omega
  have en:=abg (n:=64*2^i) (d:=d) hn (hl i aa) (aaz h) (by have:=h.1;omega);have en':CP Y F.iI [.agg [.d (.sl ts.length (ts.map tmP)),.d (.sl ts.length (ts.map tmK)),S (ai d)],I ((64*2^i:Nat):Int)] (.tup [S (itoa (eA (64*2^i) ts (0,0)).1),S (itoa (eA (64*2^i) ts (0,0)).2)]):=en
  have hd:64*2^i*2=64*2^(i+1):=by rw[Nat.pow_succ,<-Nat.mul_assoc]
  simp only[IM,hd]at hs;generalize eA (64*2^i) ts (0,0)=e at *;have ih:=D8 (d:=d) h hl k h0 hh r (i+1) s aa;have hm:((64*2^i:Nat):Int)*2=((64*2^(i+1):Nat):Int):=by rw[<-hd];omega
  generalize 64*2^(i+1)=m2 at *;generalize 64*2^i=m at *;have s1:=qH e.1;have s2:=qH e.2;have n1:=NM e.1;have n2:=NL e.2;refine aj ?_;simp[oB,tmD];refine cd en' ?_ (by rfl);simp;refine cd s1 ?_ (by rfl);by_cases c1:0<=e.1
  .rw[if_pos c1]at hs;simp only[Z9]at hs;subst hs;have c1':0<=sgn e.1:=n1.2 c1;simp[c1']
   grind
  .rw[if_neg c1]at hs;have c1':¬0<=sgn e.1:=fun x=>c1 (n1.1 x)
   simp[c1'];refine cd s2 ?_ (by rfl);by_cases c2:e.2<=0
   .rw[if_pos c2]at hs;simp only[Z9]at hs;subst hs;have c2':sgn e.2<=0:=n2.2 c2;simp[c2']
    grind
   .rw[if_neg c2]at hs;have c2':¬sgn e.2<=0:=fun x=>c2 (n2.1 x)
    have ih:=ih hs hk;simp(disch:=try exact ag)[c2',hm];exact ih
theorem KX(h:okT ts)(hl:HK ts)(hs:KZ ts=some z):CP Y F.eX [tmV ts d] (I z):=by
 refine zL ?_;have qo:=Uk (d:=d) h;have qo':CP Y F.gP [.agg [.d (.sl ts.length (ts.map tmP)),.d (.sl ts.length (ts.map tmK)),S (ai d)]] (I (qY ts)):=qo;cases hts:ts with
 | nil=>
  subst hts;simp only[KZ,Z9]at hs;subst hs;simp[eX,tmV,bj]
 | cons t r=>
  have hne:¬ts=[]:=by rw[hts];simp
  have hs':(if qY ts≠0 then some (qY ts)else IM ts 6 64)=some z:=by rw[hts]at hs ⊢;exact hs
  rw[<-hts];have ll:bj (.d (.sl ts.length (ts.map tmP)))=some (I ts.length):=rfl;by_cases hq:qY ts=0
  .rw[if_neg aa]at hs'
   have sl:=D8 (d:=d) h hl (exK [(.ret,fun l9 h=>out (I z) (ge l9 0) h)]) [(1,.vars ((tmD ts d).map .d))] rfl 6 0 z rfl hs' (fun h=>by
    simp)
   simp only[tmD,Z2,Xh]at sl;rw[hq]at qo';simp[eX,tmV,ll,hne];refine cd qo' ?_ (by rfl);simp;exact sl
  .rw[if_pos aa]at hs';simp only[Z9]at hs';subst hs';simp[eX,tmV,ll,hne];refine cd qo' ?_ (by rfl);simp[hq]
def tq(p:LiQ)(s:List Q):List (Int×Int):=ja (pX 1 s) p s
def K3(p:LiQ)(s:List Q)(z:Int):Prop:=okT (tq p s)∧HK (tq p s)∧KZ (tq p s)=some z
theorem Su(hp:pcB p=0)(hN:p.length<1000000)(hl:s.length=p.length)(hs:okS s):CP Y F.oE [lst di p,szV s] (I 0):=by
 have:=Tt (p:=p) (s:=s.map tx) aa (fun x hx=>by
  obtain⟨y,hy,rfl⟩:=Zc.1 hx;obtain⟨l1,l2⟩:=Be (hs y hy).2;omega) (by grind)
 unfold siB scB at this;rw[if_pos hp,List.length_map,if_pos hl,IB hs]at this;exact this
theorem ab1(hp:pcB p=0)(hN:p.length<3000)(hl:s.length=p.length)(hs:okS s)(hz:K3 p s z):CP Y F.sj [lst di p,szV s] (.tup [I z,I 0]):=by refine KW ?_;obtain⟨h1,h2,h3⟩:=hz;have ck:=Su hp aa hl hs;have to_:=Ec (p:=p) (s:=s) (K:=30) aa hl.symm hs aa ae;have si:=KX (d:=pX 1 s) h1 h2 h3;simp[sj];refine cd ck ?_ (by rfl);simp;refine cd to_ ?_ (by rfl);simp;refine cd si ?_ (by rfl);simp[aG]
def dfS(p:LiQ)(a b:List Q):List Q:=qX p.length [a,b] [(1,1),(-1,1)]
theorem PX:okK 1 [(1,1),(-1,1)]:=fun x hx=>by
 simp at hx;rcases hx with rfl|rfl
 .exact⟨⟨ae,ae⟩,cN ae ae,cN ae ae⟩
 .exact⟨⟨ae,ae⟩,cN ae ae,cN ae ae⟩
theorem OI{a b:List Q}(hN:p.length<1000)(ha:a.length=p.length)(hb:b.length=p.length)(oa:okS a)(ob:okS b)(hz:K3 p (dfS p a b) z):CP Y F.nz [lst di p,szV a,szV b] (I z):=by
 refine Er ?_;obtain⟨h1,h2,h3⟩:=hz
 have hab:∀s ∈ [a,b],s.length=p.length∧okK 30 s:=fun s hs=>by
  simp at hs;rcases hs with rfl|rfl
  .trivial
  trivial
 have su:=Nz (n:=p.length) (l:=[a,b]) (fs:=[(1,1),(-1,1)]) (Ks:=30) (Kk:=1) aa af rfl ae af hab PX;have oK:okK 65 (dfS p a b):=Pi (Ks:=30) (Kk:=1) (Ko:=1) (J9 _) (fun s hs=>(hab s hs).2) PX
 have hl:(dfS p a b).length=p.length:=by
  unfold dfS qX;rw[zG (fun s hs=>by grind)];simp
 have to_:=Ec (p:=p) (s:=dfS p a b) (K:=65) aa hl.symm oK aa ae;have si:=KX (d:=pX 1 (dfS p a b)) h1 h2 h3;have l1:∀H,cO 2 [nPQ] [(0,szV a),(1,szV b)] H=some ([szD a,szD b],H):=fun H=>Vt ..
 have l2:∀H,cO 2 [D.str [],D.str []] [(0,.agg (qT (1,1))),(1,.agg (qT (-1,1)))] H=some (aK (tx (1,1))++aK (tx (-1,1)),H):=fun H=>acw (1,1) (-1,1) H
 have l3:bj (lst di p)=some (I p.length):=rfl;simp[nz,l1,l3];refine cd (oJ (z:=1) aa aa) ?_;simp;refine cd (oJ (z:=-1) aa aa) ?_;simp[l2];refine cd (v:=szV (dfS p a b)) su ?_ (by rfl);simp;refine cd to_ ?_ (by rfl);simp;refine cd si ?_ (by rfl);simp
theorem FY{a b:List Q}(hp:pcB p=0)(hN:p.length<1000)(ha:a.length=p.length)(hb:b.length=p.length)(oa:okS a)(ob:okS b)(hz:K3 p (dfS p a b) z):CP Y F.gX [lst di p,szV a,szV b] (.tup [I z,I 0]):=by
 refine wO ?_
 have ca:=xx (p:=p) (l:=[a,b]) aa af (fun s hs=>by
  simp at hs;rcases hs with rfl|rfl
  .exact⟨oa,aa⟩
  .exact⟨ob,aa⟩)
 rw [if_pos hp,JQ (n:=p.length) (l:=[a,b]) fun s hs=>by
  grind]at ca
 have co:=OI hN ha hb oa ob hz;have l1:∀H,cO 2 [nPQ] [(0,szV a),(1,szV b)] H=some ([szD a,szD b],H):=fun H=>Vt ..
 simp[gX,l1];refine cd (v:=I 0) ca ?_ (by rfl);simp;refine cd co ?_ (by rfl);simp[aG]
def A3(z:Int):Int:=max z (-z)*(2*max z 0-1)
def YY(p:LiQ)(s:List Q)(z:Int):List Q:=qX p.length [s] [(A3 z,1)]
theorem aeJ(hp:pcB p=0)(hN:p.length<1000)(hl:s.length=p.length)(hs:okS s)(hz:K3 p s z)(h1 : -1<=z)(h2:z<=1):CP Y F.sX [lst di p,szV s] (.tup [szV (YY p s z),I 0]):=by
 refine NJ ?_;have si:=ab1 hp aa hl hs hz
 have hk:A3 z=z:=by
  rcases(show z = -1∨z=0∨z=1 by omega)with rfl|rfl|rfl<;>rfl
 have hkk:okK 1 [(A3 z,1)]:=fun x hx=>by
  simp at hx;subst hx;exact⟨⟨af,af⟩,cN aa ae,cN af ae⟩
 have su:=Nz (n:=p.length) (l:=[s]) (fs:=[(A3 z,1)]) (Ks:=30) (Kk:=1) aa af rfl ae af (fun t ht=>by
  simp at ht;subst ht;trivial) hkk
 have su':CP Y F.nY [I p.length,lst szD [s],szV [(A3 z,1)]] (szV (YY p s z)):=su;have l1:∀H,cO 1 [nPQ] [(0,szV s)] H=some ([szD s],H):=fun H=>Vu ..
 have l2:∀H,cO 1 [D.str [],D.str []] [(0,.agg (qT (A3 z,1)))] H=some (aK (tx (A3 z,1)),H):=fun H=>Qi (A3 z,1) H
 have l3:bj (lst di p)=some (I p.length):=rfl;have m1:mxI true [I z,I (-z)]=some (I (max z (-z))):=by simp only[mxI,Od]
 have m2:mxI true [I z,I 0]=some (I (max z 0)):=by simp only[mxI,Od]
 have n1:biI .mul (.d (.int .i64 2)) (I (max z 0))=some (I (2*max z 0)):=by rw[vJ,wrap_i64 ⟨aa,aa⟩]
 have n2:biI .sub (I (2*max z 0)) (.d (.int .i64 1))=some (I (2*max z 0-1)):=by rw[rT,wrap_i64 ⟨aa,aa⟩]
 have n3:biI .mul (I (max z (-z))) (I (2*max z 0-1))=some (I (A3 z)):=by
  rw[vJ,wrap_i64 (by grind)];rfl
 have nb:=oJ (z:=A3 z) aa aa
 have neg:unV .neg (I z)=some (I (-z)):=by
  rcases(show z = -1∨z=0∨z=1 by omega)with rfl|rfl|rfl<;>rfl
 simp[sX];refine cd si ?_ (by rfl);clear su;generalize A3 z=az at *;generalize max z (-z)=a1 at *;generalize max z 0=a2 at *;generalize 2*a2-1=a4 at *;simp[l1,l3,neg,m1,m2,n1,n2,n3];refine cd nb ?_;simp[l2];refine cd (v:=szV (YY p s z)) su' ?_ (by rfl);simp[aG,zE]
def afD(x y:Int×Int)(d g:Int):Option Int:=
 let z:(Int×Int)×(Int×Int):=if y.2<=0 then((-x.2,-x.1),(-y.2,-y.1))else(x,y)
 if z.2.1<=0 then none else
  let low:=if z.1.1<0 then z.2.1 else z.2.2
  let high:=if z.1.2<0 then z.2.2 else z.2.1
  if z.1.1*g/(low*d)=z.1.2*g/(high*d)then some (z.1.1*g/(low*d))else none
def afC(tx ty:List (Int×Int))(d g:Nat):Option Int:=match oL 100000 tx (0,0),oL 100000 ty (0,0)with
 |some x,some y=>if 10000<d∨10000<g then none else afD x y d g
 |_,_=>none
def aaB(ts:List (Int×Int)):Prop:=ts.length<=8∧∀t∈ts,2<=t.1∧t.1<128∧t.2.natAbs<9223372036854775808
def Ui:Q->List Q->List Q->Q
 |k,x::a,y::b=>Ui (if y.1=0 then k else ah6 x y) a b
 |k,_,_=>k
def Uh(k:Q):List Q->List Q->Bool
 |x::a,y::b=>decide (tX k y=x)&&Uh k a b
 |_,_=>true
theorem aaR{n d:Int}(h:d≠0):okQ (vW n d):=by unfold vW;split<;>exact DC _ aa
def agc(tx ty:List (Int×Int))(d g:Int):Nat->Nat->Option Int
 |0,_=>none
 | r+1,n=>match afD (eA n tx (0,0)) (eA n ty (0,0)) d g with
  |some q=>some q
  |none=>agc tx ty d g r (n*2)
def agd(p:LiQ)(a b:List Q)(q:Int):Prop:=
 (Uh (Ui (0,1) a b) a b=true∧q=(Ui (0,1) a b).1/((Ui (0,1) a b).2:Int)) ∨
 (Uh (Ui (0,1) a b) a b=false∧aaB (tq p a)∧aaB (tq p b)∧pX 1 a<9223372036854775808∧pX 1 b<9223372036854775808 ∧
  ((afC (tq p a) (tq p b) (pX 1 a) (pX 1 b)=some q∧-9223372036854775808<q∧q<9223372036854775808) ∨
   (afC (tq p a) (tq p b) (pX 1 a) (pX 1 b)=none∧HK (tq p a)∧HK (tq p b)∧(∀i,i<6->(eA (64*2^i) (tq p b) (0,0)).1<=(eA (64*2^i) (tq p b) (0,0)).2)∧agc (tq p a) (tq p b) (pX 1 a) (pX 1 b) 6 64=some q)))
theorem adU(h:aaB ts):okT ts:=⟨by have:=h.1;omega,fun t ht=>⟨(h.2 t ht).1,by have:=(h.2 t ht).2.1;omega,(h.2 t ht).2.2⟩⟩
def ahQ(p:LiQ)(a b:List Q):List Q:=qX p.length [a,b] [(2,1),(1,1)]
def ahP(p:LiQ)(b:List Q):List Q:=qX p.length [b] [(2,1)]
def Ha(p:LiQ)(n:Nat):List Q:=qX p.length [abd p.length] [(1,n)]
def Nu(p:LiQ)(n:Nat)(q:Int):List Q:=qX p.length [Ha p n] [(q,1)]
def PZ(p:LiQ)(n:Nat)(q:Int)(s:List Q):List Q:=qX p.length [Nu p n q,s] [(1,1),(-1,1)]
structure agD(p:LiQ)(n:Nat)(r:LiQ)(q:Int):Prop where
 hp:pcB p=0
 hN:p.length<=20
 hl:0<p.length
 h0:0<n
 h1:n<=10000
 lr:r.length=p.length
 sr:smR r=true
 st:okS (Ha p n)
 of:okS (ofQ r)
 ne:tq p (Ha p n)≠[]
 fl:agd p (ahQ p (ofQ r) (Ha p n)) (ahP p (Ha p n)) q
 q1 : -1000000000000000000<q
 q2:q<1000000000000000000
 ti:okS (Nu p n q)
 er:okS (PZ p n q (ofQ r))
def YM(p:LiQ)(n:Nat)(r:LiQ)(q z:Int):List Q:=YY p (PZ p n q (ofQ r)) z
structure aiS(p r:LiQ)(lim:Nat)(qf zf:Nat->Int)(ls:Nat->Nat->Bool):Prop where
 er:∀n,1<=n->n<=lim->agD p n r (qf n)
 sg:∀n,1<=n->n<=lim->K3 p (PZ p n (qf n) (ofQ r)) (zf n)∧-1<=zf n∧zf n<=1
 ok:∀n,1<=n->n<=lim->okS (YM p n r (qf n) (zf n))
 cm:∀n m,1<=m->m<n->n<=lim->∃z,K3 p (dfS p (YM p n r (qf n) (zf n)) (YM p m r (qf m) (zf m))) z∧decide (z<0)=ls n m
def bE:LiQ->LiQ->Int
 |a::r,b::t=>a*b+bE r t
 |_,_=>0
def La(E:Int)(ws:Int):LiQ->LiQ->LiQ->Bool
 |w::W,l::L,u::U=>decide (E*u=w+ws*l)&&La E ws W L U
 |[],[],[]=>true
 |_,_,_=>false
def ZN:LiQ->Nat
 |[]=>0
 |w::W=>w.natAbs+ZN W
theorem Qy{E ws:Int}:∀{w L u:LiQ},La E ws w L u=true->∀c:LiQ,E*bE c u=bE c w+ws*bE c L
 |[],[],[],_,c=>by cases c<;>simp[bE]
 |w::W,l::L,u::U,h,[]=>by simp[bE]
 | w::W,l::L,u::U,h,x::c=>by
  simp only[La,Z8,decide_eq_true_eq]at h;have ih:=Qy h.2 c;simp only[bE,Int.mul_add];rw[ih]
  have e1:E*(x*u)=x*w+ws*(x*l):=by
   have:E*(x*u)=x*(E*u):=by rw[Int.mul_left_comm]
   rw[this,h.1,Int.mul_add,Int.mul_left_comm x ws l]
  rw[e1];omega
 |[],[],_::_,h,_=>by simp[La]at h
 |[],_::_,_,h,_=>by simp[La]at h
 |_::_,[],_,h,_=>by simp[La]at h
 |_::_,_::_,[],h,_=>by simp[La]at h
theorem WL{B:Nat}:∀(c w:LiQ),(∀x∈c,x.natAbs<=B)->(bE c w).natAbs<=ZN w*B
 |[],w,_=>by simp[bE]
 |x::c,[],_=>by simp[bE]
 | x::c,w::W,h=>by
  have h1:=h x af;have ih:=WL c W fun y hy=>h y (by simp[hy])
  have h2:(x*w).natAbs<=w.natAbs*B:=by
   rw[Y2,Zt];exact Zw _ h1
  have h3:=Int.natAbs_add_le (x*w) (bE c W);simp only[bE,ZN,Nat.add_mul];omega
structure J6 where
 w:LiQ
 s:Int
 u:LiQ
variable{rs:List J6}
def aai(k E B G:Nat)(L:LiQ)(r:J6):Bool:=La E r.s r.w L r.u&&decide (ZN r.w*B+r.s.natAbs*G<E)&&decide (r.u.length=k)
theorem row_zero{B:Nat}{r:J6}(h:aai k E B G L r=true)(hc:∀x∈c,x.natAbs<=B)(hL:(bE c L).natAbs<=G):bE c r.u=0:=by
 simp only[aai,Z8,decide_eq_true_eq]at h;have h1:=Qy h.1.1 c;have h2:=WL c r.w hc
 have h3:(r.s*bE c L).natAbs<=r.s.natAbs*G:=by
  rw[Y2];exact Zw _ hL
 have h4:=Int.natAbs_add_le (bE c r.w) (r.s*bE c L);rw[<-h1,Y2,Int.natAbs_natCast]at h4;have h5:E*(bE c r.u).natAbs<E*1:=by rw[Yc];exact Zk (Zu h4 (Nat.add_le_add h2 h3)) h.1.2
 have h6:=W5 h5;omega
def OS(v:Int):LiQ->LiQ->LiQ
 |x::a,y::b=>(v*x+y)::OS v a b
 |_,_=>[]
def GQ(k:Nat):LiQ->LLQ->LiQ
 |v::V,u::U=>OS v u (GQ k V U)
 |_,_=>List.replicate k 0
theorem My(v:Int):∀(c a b:LiQ),a.length=b.length->bE c (OS v a b)=v*bE c a+bE c b
 |[],a,b,_=>by simp[bE]
 |x::c,[],[],_=>by simp[bE,OS]
 | x::c,y::a,z::b,h=>by
  simp only[OS,bE,My v c a b (by simpa using h),Int.mul_add];rw[Int.mul_left_comm x v y];omega
 |x::c,[],_::_,h=>by simp at h
 |x::c,_::_,[],h=>by simp at h
theorem M0(v:Int):∀(a b:LiQ),a.length=b.length->(OS v a b).length=a.length
 |[],[],_=>rfl
 |x::a,y::b,h=>by simp[OS,M0 v a b (by simpa using h)]
 |[],_::_,h=>by simp at h
 |_::_,[],h=>by simp at h
theorem MK{k:Nat}:∀(V:LiQ)(U:LLQ),(∀u∈U,u.length=k)->(GQ k V U).length=k
 |[],_,_=>by simp[GQ]
 |_::_,[],_=>by simp[GQ]
 | v::V,u::U,h=>by
  have h1:=h u af;have ih:=MK V U fun y hy=>h y (by simp[hy])
  rw[GQ,M0 v _ _ (by rw[h1,ih]),h1]
theorem JG:∀(c:LiQ)(k:Nat),bE c (List.replicate k 0)=0
 |[],k=>by simp[bE]
 |x::c,0=>by simp[bE]
 |x::c,k+1=>by simp[List.replicate_succ,bE,JG c k]
theorem Mx{k:Nat}{c:LiQ}:∀(V:LiQ)(U:LLQ),(∀u∈U,u.length=k)->(∀u∈U,bE c u=0)->bE c (GQ k V U)=0
 |[],_,_,_=>by rw[GQ];exact JG c k;simp
 |_::_,[],_,_=>by rw[GQ];exact JG c k;simp
 | v::V,u::U,h,h0=>by
  have h1:=h u af;have hl:=MK V U fun y hy=>h y (by simp[hy])
  rw[GQ,My v _ _ _ (by rw[h1,hl]),h0 u af,Mx V U (fun y hy=>h y (by simp[hy])) fun y hy=>h0 y (by simp[hy])];simp
def G2:Nat->LiQ->Bool
 |0,x::r=>decide (x=1)&&r.all fun y=>decide (y=0)
 |i+1,x::r=>decide (x=0)&&G2 i r
 |_,[]=>false
theorem QB:∀(c r:LiQ),(r.all fun y=>decide (y=0))=true->bE c r=0
 |[],r,_=>by simp[bE]
 |x::c,[],_=>by simp[bE]
 | x::c,y::r,h=>by
  simp only[List.all_cons,Z8,decide_eq_true_eq]at h;simp[bE,h.1,QB c r h.2]
theorem Mt:∀(i:Nat)(c r:LiQ),G2 i r=true->bE c r=c.getD i 0
 |_,[],r,_=>by simp[bE]
 |i,x::c,[],h=>by cases i<;>simp[G2]at h
 | 0,x::c,y::r,h=>by
  simp only[G2,Z8,decide_eq_true_eq]at h;simp[bE,h.1,QB c r h.2]
 | i+1,x::c,y::r,h=>by
  simp only[G2,Z8,decide_eq_true_eq]at h;simp[bE,h.1,Mt i c r h.2]
def H9(k E B G:Nat)(L:LiQ)(rs:List J6)(V:LLQ):Bool:=
 rs.all (aai k E B G L)&&(List.range k).all fun i=>G2 i (GQ k (V.getD i []) (rs.map J6.u))
theorem Sv{B:Nat}{V:LLQ}(h:H9 k E B G L rs V=true)(hk:c.length=k)(hc:∀x∈c,x.natAbs<=B)(hL:(bE c L).natAbs<=G):∀x∈c,x=0:=by
 simp only[H9,Z8,Zv,X6]at h;intro x hx;obtain⟨i,hi,rfl⟩:=Wu hx;have h1:=h.2 i aa;have h2:=Mt i c _ h1
 have hu:∀u∈rs.map J6.u,u.length=k:=by
  intro u hu;obtain⟨r,hr,rfl⟩:=Zc.1 hu;have:=h.1 r hr;simp only[aai,Z8,decide_eq_true_eq]at this;exact this.2
 have hz:∀u∈rs.map J6.u,bE c u=0:=by
  intro u hu;obtain⟨r,hr,rfl⟩:=Zc.1 hu;exact row_zero (h.1 r hr) hc hL
 rw[Mx _ _ hu hz]at h2;rw[Zy,List.getElem?_eq_getElem hi]at h2;simpa using h2.symm
def ivR(p q a:Int):LiQ->LiQ->LiQ
 |t::ts,r::rs=>(p*t-a*r)/q::ivR p q a ts rs
 |_,_=>[]
def ivU(p q:Int)(rest:LiQ):LLQ->LLQ
 |(a::t)::R=>ivR p q a t rest::ivU p q rest R
 |_=>[]
def ivG:Nat->LLQ->Int->LLQ->LLQ
 |n+1,D,q,(p::rest)::R=>ivG n (ivU p q rest D++[rest]) p (ivU p q rest R)
 |_,D,q,_=>D.map fun r=>r.map (q * ·)
def aff(k i:Nat):LiQ:=(List.range k).map fun j=>if i=j then 1 else 0
def agz(k:Nat):Nat->LLQ->LLQ
 |i,v::V=>(v++aff k i)::agz k (i+1) V
 |_,[]=>[]
def ivM(k:Nat)(V:LLQ):LLQ:=ivG k [] 1 (agz k 0 V)
def ahO(E:Int)(L:LiQ)(u:LiQ):J6:=⟨List.zipWith (fun x l=>E*x-u.getLastD 0*l) u L,u.getLastD 0,u⟩
def lgI(n:Nat)(p:Int):Int:=(lg p n:Int)
def c6P:LiQ:=[2,3,5]
def c6L:LiQ:=c6P.map (lgI 2048)
def c6E:Nat:=lg 5 2048
def c6V:LLQ:=[[-23107506865110696515490237,-12181592604084733664567524,-77705686474741245093340632],[-23305436556634719312944701,20223694805223446655777319,57745359978069140891564758],[25860296881082166148168347,-8558492974860052451653243,-5951322830181324782204063]]
theorem aiu:c6P.map (lgI 2048)=c6L:=rfl
def c6R:List J6:=(ivM 3 c6V).map (ahO c6E c6L)
theorem XY:H9 3 c6E 73786976294838206464 73786976294838206464 c6L c6R c6V=true:=bb
theorem JR:H9 3 c6E 73786976294838206464 73786976294838206464 (c6P.map (lgI 2048)) c6R c6V=true:=by rw[aiu];exact XY
def qD(h:Int->Int):List (Int×Int)->Int
 |[]=>0
 |t::ts=>t.2*h t.1+qD h ts
def zF:List (Int×Int)->Nat
 |[]=>0
 |t::ts=>t.2.natAbs+zF ts
def cfT:List (Int×Int)->Int->Int
 |[],_=>0
 |t::ts,c=>(if t.1=c then t.2 else 0)+cfT ts c
theorem AM(n:Nat):∀ts:List (Int×Int),(eA n ts (0,0)).1<=qD (lgI n) ts∧qD (lgI n) ts<=(eA n ts (0,0)).2∧(eA n ts (0,0)).2-(eA n ts (0,0)).1<=zF ts
 |[]=>by simp[eA,qD,zF]
 | t::ts=>by
  obtain⟨h1,h2,h3⟩:=AM n ts;obtain⟨x,hx⟩:∃x:Int,x=lg t.1 n:=⟨_,rfl⟩;obtain⟨y,hy⟩:∃y:Int,y=if t.1=2 then x else x+1:=⟨_,rfl⟩
  have hxy:y=x∨y=x+1:=by rw[hy];split<;>simp
  have e:eA n (t::ts) (0,0)=eA n ts (if t.2<0 then(0+y*t.2,0+x*t.2)else(0+x*t.2,0+y*t.2)):=by
   rw[hy,hx];rfl
  have e2:qD (lgI n) (t::ts)=t.2*x+qD (lgI n) ts:=by rw[hx];rfl
  rw[e,e2,AN ts];simp only[zF,Ye]
  have m1:y*t.2=x*t.2∨y*t.2=x*t.2+t.2:=by
   rcases hxy with h|h
   .left;rw[h]
   .right;rw[h,Wy,Int.one_mul]
  rw[Xf t.2 x];by_cases hn:t.2<0
  .rw[if_pos hn];simp only;omega
  .rw[if_neg hn];simp only;omega
theorem Mw(f g:Int->Int):∀(P L:LiQ),bE (P.map fun c=>f c+g c) L=bE (P.map f) L+bE (P.map g) L
 |[],L=>by simp[bE]
 |p::P,[]=>by simp[bE]
 | p::P,l::L=>by
  simp only[Z2,bE,Mw f g P L,Wy];omega
theorem Mu(h:Int->Int)(a z:Int):∀P:LiQ,a ∉ P->bE (P.map fun c=>if a=c then z else 0) (P.map h)=0
 |[],_=>by simp[bE]
 | p::P,hn=>by
  simp only[Zo,not_or]at hn;simp[bE,hn.1,Mu h a z P hn.2]
theorem QA(h:Int->Int)(a z:Int):∀P:LiQ,P.Nodup->a∈P->bE (P.map fun c=>if a=c then z else 0) (P.map h)=z*h a
 |[],_,hm=>by simp at hm
 | p::P,hn,hm=>by
  rw[Xm]at hn;by_cases e:a=p
  .subst e;simp[bE,Mu h a z P hn.1]
  .have:a∈P:=by simpa[e]using hm
   simp[bE,e,QA h a z P hn.2 this]
theorem Ku(h:Int->Int){P:LiQ}(hP:P.Nodup):∀ts:List (Int×Int),(∀t∈ts,t.1∈P)->qD h ts=bE (P.map (cfT ts)) (P.map h)
 | [],_=>by
  have:∀P:LiQ,bE (P.map (cfT [])) (P.map h)=0:=by
   intro P
   induction P with
   |nil=>rfl
   |cons p P ih=>rw[Z2,Z2,bE,ih];simp[cfT]
  rw[this];rfl
 | t::ts,hm=>by
  rw[qD,Ku h hP ts fun u hu=>hm u (by simp[hu])];have:cfT (t::ts)=fun c=>(if t.1=c then t.2 else 0)+cfT ts c:=by funext c;rfl
  rw[this,Mw,QA h t.1 t.2 P hP (hm t af)]
theorem XI(c:Int):∀ts:List (Int×Int),(cfT ts c).natAbs<=zF ts
 |[]=>by simp[cfT]
 | t::ts=>by
  have:=XI c ts;simp only[cfT,zF];split<;>omega
theorem DT{c:Int}:∀ts:List (Int×Int),c ∉ ts.map Prod.fst->cfT ts c=0
 |[],_=>rfl
 | t::ts,h=>by
  simp only[Z2,Zo,not_or]at h;rw[cfT,if_neg (fun e=>h.1 e.symm),DT ts h.2];rfl
theorem BG{B:Nat}{V:LLQ}(hc:H9 k E B G (P.map (lgI n)) rs V=true)(hk:P.length=k)(hP:P.Nodup)(hm:∀t∈ts,t.1∈P)(hB:zF ts<=B)(hG:(qD (lgI n) ts).natAbs<=G):∀c∈P,cfT ts c=0:=by
 intro c hcP
 have h1:=Sv hc (c:=P.map (cfT ts)) (by simpa using hk) (by
  intro x hx;obtain⟨d,_,rfl⟩:=Zc.1 hx;exact Zu (XI d ts) hB) (by rw[<-Ku (lgI n) hP ts hm];exact hG)
 exact h1 _ (Wt hcP)
theorem aaa{B:Nat}{V:LLQ}(hc:H9 k E B G (P.map (lgI n)) rs V=true)(hk:P.length=k)(hP:P.Nodup)(hm:∀t∈ts,t.1∈P)(hn:(ts.map Prod.fst).Nodup)(h0:∀t∈ts,t.2≠0)(hB:zF ts<=B)(hG:zF ts<=G)(hne:ts≠[]):
  0<=(eA n ts (0,0)).1∨(eA n ts (0,0)).2<=0:=by
 obtain⟨g1,g2,g3⟩:=AM n ts;by_cases hd:0<=(eA n ts (0,0)).1∨(eA n ts (0,0)).2<=0
 .exact hd
 .exfalso;have hz:=BG hc hk hP hm hB aa;cases ts with
  |nil=>exact hne rfl
  | cons t ts=>
   have h1:=hz t.1 (hm t af);simp only[Z2,Xm]at hn;rw[cfT,if_pos rfl,DT ts hn.1]at h1;exact h0 t af aa
def lgC(n:Nat)(p:Int):Bool:=(CU p.toNat n).isSome&&decide (2^n<=lg p n)&&decide (lg p n+1<=8*2^n)
theorem agq:∀p∈c6P,∀i∈List.range 6,lgC (64*2^i) p=true:=bb
theorem adW{x:Nat}(hk:1<=k)(h:x<2^(3*k)):ndg x<=k:=by refine cN (Z1 h ?_) hk;rw[Xc];exact X0 ae k
theorem UR{x:Nat}(hk:1<=k)(hm:m+3<=3*k)(h:x+1<=8*2^m):ndg x<=k:=by
 refine adW hk (Z1 (Z1 (Nat.lt_succ_self x) h) ?_);have e:8*2^m=2^(m+3):=by rw[Y6,Zt]
 rw[e];exact Z4 ae hm
theorem XW:∀p∈c6P,2<=p∧p<128:=ae
theorem XX:c6P.Nodup:=ae
theorem acX{p:Int}(hp:p∈c6P)(hi:i<6):(CU p.toNat (64*2^i)).isSome=true∧2^(64*2^i)<=lg p (64*2^i)∧lg p (64*2^i)+1<=8*2^(64*2^i):=by have:=agq p hp i (X6.2 hi);simp only[lgC,Z8,decide_eq_true_eq]at this;exact⟨this.1.1,this.1.2,this.2⟩
theorem aeE(h:∀t∈ts,t.1∈c6P):HK ts:=by intro i hi t ht;obtain⟨h1,h2,h3⟩:=acX (h t ht) hi;obtain⟨p1,p2⟩:=XW _ (h t ht);refine⟨p1,aa,h1,?_⟩;obtain⟨k,hk⟩:=nmQ (1500);rw[<-hk];refine UR aa ?_ h3;have:2^i<=2^5:=Z4 ae aa;omega
theorem IC{C:Nat}:∀ts:List (Int×Int),(∀t∈ts,t.2.natAbs<=C)->zF ts<=ts.length*C
 |[],_=>by simp[zF]
 | t::ts,h=>by
  have h1:=h t af;have h2:=IC ts fun u hu=>h u (by simp[hu])
  simp only[zF,List.length_cons,X5];omega
def rp(b:Nat)(x:Q)(a:Int):Prop:=okQ x∧x.1*(b:Int)=a*(x.2:Int)
theorem aaS(n:Int)(hd:0<d):(gU n d).1*(d:Int)=n*((gU n d).2:Int)∧0<(gU n d).2:=by
 obtain⟨g,hg⟩:=nmQ (Nat.gcd n.natAbs d);have hg0:0<g:=by rw[hg];exact Ww _ hd
 obtain⟨d',hd'⟩:g∣d:=by rw[hg];exact Nat.gcd_dvd_right ..
 obtain⟨n',hn'⟩:(g:Int)∣n:=XN (by rw[hg];exact Wi ..)
 have e1:(gU n d).1=n':=by
  simp only[gU,<-hg];rw[hn'];exact Int.mul_ediv_cancel_left _ aa
 have e2:(gU n d).2=d':=by
  simp only[gU,<-hg];rw[hd'];exact Xo _ hg0
 rw[e1,e2];refine⟨?_,?_⟩
 .rw[hn',hd',Int.natCast_mul,<-Int.mul_assoc,Xf n' g]
 .rcases Zd d' with h|h
  .rw[h]at hd';omega
  .exact h
theorem Br{n a:Int}(hd:0<d)(h:n*(b:Int)=a*(d:Int)):rp b (gU n d) a:=by
 obtain⟨h1,h2⟩:=aaS n hd;refine⟨DC n hd,?_⟩;have hd':(d:Int)≠0:=aa;refine Int.eq_of_mul_eq_mul_right hd' ?_
 calc (gU n d).1*(b:Int)*(d:Int)=(gU n d).1*(d:Int)*(b:Int):=by rw[Yz]
  _=n*((gU n d).2:Int)*(b:Int):=by rw[h1]
  _=n*(b:Int)*((gU n d).2:Int):=by rw[Yz]
  _=a*((gU n d).2:Int)*(d:Int):=by rw[h,Yz]
theorem NP{y:Q}{a c:Int}(hx:rp b x a)(hy:rp b y c):rp b (vm x y) (a+c):=by
 have p1:=hx.1.1;have p2:=hy.1.1;refine Br (Yx p1 p2) ?_;rw[Wy,Wy,Int.natCast_mul]
 have e1:x.1*(y.2:Int)*(b:Int)=a*((x.2:Int)*(y.2:Int)):=by
  rw[Yz,hx.2,Int.mul_assoc]
 have e2:y.1*(x.2:Int)*(b:Int)=c*((x.2:Int)*(y.2:Int)):=by
  rw[Yz,hy.2,Int.mul_assoc,Xf (y.2:Int)]
 rw[e1,e2]
theorem aah{a:Int}(z:Int)(hx:rp b x a):rp b (tX x (z,1)) (z*a):=by have p1:=hx.1.1;refine Br (by simpa using p1) ?_;simp only[Yc];rw[Yz,hx.2,Int.mul_assoc,Xf (x.2:Int),<-Int.mul_assoc,Xf a]
theorem TL{a:Int}(m:Nat)(hx:rp b x a):rp (b*m) x (a*m):=
 ⟨hx.1,by rw[Int.natCast_mul,<-Int.mul_assoc,hx.2,Yz]⟩
theorem Pt(b:Nat):rp b (0,1) 0:=⟨⟨ae,ae⟩,af⟩
theorem IS{a:Int}(h:rp b x a):x.2∣b:=by
 have h1:x.1.natAbs*b=a.natAbs*x.2:=by
  have:=congrArg Int.natAbs h.2;simpa[Y2]using this
 have h2:x.2∣x.1.natAbs*b:=⟨a.natAbs,by rw[h1,Zt]⟩;exact Nat.Coprime.dvd_of_dvd_mul_left (Nat.Coprime.symm h.1.2) h2
theorem TM{a:Int}(hb:0<b)(h:rp b x a):x.1.natAbs*(b/x.2)=a.natAbs:=by
 obtain⟨m,hm⟩:=IS h
 have h1:x.1.natAbs*b=a.natAbs*x.2:=by
  have:=congrArg Int.natAbs h.2;simpa[Y2]using this
 have p:=h.1.1;rw[hm,Xo _ p];refine Nat.eq_of_mul_eq_mul_right p ?_;rw[<-h1,hm,Nat.mul_assoc,Zt m]
theorem afz{a:Int}(hb:0<b)(h:rp b x a):x.1.natAbs<=a.natAbs∧x.2<=b:=by have h1:=TM hb h;have h2:=Wv hb (IS h);have h3:1<=b/x.2:=(W8 h.1.1).2 aa;refine⟨?_,h2⟩;rw[<-h1];exact Y5 _ h3
def bdL(b B:Nat)(s:List Q):Prop:=∀x∈s,∃a:Int,rp b x a∧a.natAbs<=B
theorem agw{B:Nat}(hb:0<b)(h:bdL b B s):∀x∈s,okQ x:=fun x hx=>by
 obtain⟨a,h1,h2⟩:=h x hx;exact h1.1
theorem YI{B:Nat}(hb:0<b)(h:bdL b B s)(h1:b<1000000000000000000000000000000)(h2:B<1000000000000000000000000000000):okS s:=fun x hx=>by
 obtain⟨a,r1,r2⟩:=h x hx;obtain⟨l1,l2⟩:=afz hb r1;exact⟨r1.1,cN (d:=30) (by show _<10^30;omega) ae,cN (d:=30) (by show _<10^30;omega) ae⟩
theorem QE{b:Nat}:∀{s:List Q}{d:Nat},d∣b->(∀x∈s,x.2∣b)->pX d s∣b
 |[],d,h,_=>h
 |x::s,d,h,hs=>QE (s:=s) (Nat.lcm_dvd h (hs x af)) fun y hy=>hs y (by simp[hy])
theorem YJ{B:Nat}(h:bdL b B s):pX 1 s∣b:=QE (Nat.one_dvd b) fun x hx=>by
 obtain⟨a,r1,r2⟩:=h x hx;exact IS r1
theorem KC{b B d:Nat}(hb:0<b)(hd:d∣b):∀{p:LiQ}{s:List Q},bdL b B s->∀t∈ja d p s,t.2.natAbs<=B
 |[],s,_,t,ht=>by simp[ja]at ht
 |p::ps,[],_,t,ht=>by simp[ja]at ht
 | p::ps,x::s,h,t,ht=>by
  obtain⟨a,r1,r2⟩:=h x af;have ih:=KC hb hd (p:=ps) (s:=s) fun y hy=>h y (by simp[hy])
  simp only[ja]at ht
  have hx:(x.1*((d/x.2:Nat):Int)).natAbs<=B:=by
   rw[Y2,Int.natAbs_natCast];have h1:=TM hb r1;have h2:d/x.2<=b/x.2:=Nat.div_le_div_right (Wv hb hd);have h3:=Zw x.1.natAbs h2;omega
  split at ht
  .exact ih t ht
  .simp only[Zo]at ht;rcases ht with rfl|ht
   .exact hx
   .exact ih t ht
theorem Bi{d:Nat}:∀{p:LiQ}{s:List Q},∀t∈ja d p s,t.1∈p
 |[],s,t,ht=>by simp[ja]at ht
 |p::ps,[],t,ht=>by simp[ja]at ht
 | p::ps,x::s,t,ht=>by
  have ih:=Bi (d:=d) (p:=ps) (s:=s);simp only[ja]at ht;split at ht
  .exact List.mem_cons_of_mem _ (ih t ht)
  .simp only[Zo]at ht;rcases ht with rfl|ht
   .simp
   .exact List.mem_cons_of_mem _ (ih t ht)
theorem KA{d:Nat}:∀{p:LiQ}{s:List Q},p.Nodup->((ja d p s).map Prod.fst).Nodup
 |[],s,_=>by simp[ja]
 |p::ps,[],_=>by simp[ja]
 | p::ps,x::s,h=>by
  rw[Xm]at h;have ih:=KA (d:=d) (p:=ps) (s:=s) h.2;simp only[ja];split
  .exact ih
  .simp only[Z2,Xm];refine⟨fun hm=>?_,ih⟩;obtain⟨t,ht,e⟩:=Zc.1 hm;exact h.1 (by rw[<-e];exact Bi t ht)
theorem KB{d:Nat}(hd:0<d):∀{p:LiQ}{s:List Q},(∀x∈s,0<x.2∧x.2∣d)->∀t∈ja d p s,t.2≠0
 |[],s,_,t,ht=>by simp[ja]at ht
 |p::ps,[],_,t,ht=>by simp[ja]at ht
 | p::ps,x::s,h,t,ht=>by
  have ih:=KB hd (p:=ps) (s:=s) fun y hy=>h y (by simp[hy])
  obtain⟨h1,h2⟩:=h x af;have h3:0<d/x.2:=V4 (Wv hd h2) h1;simp only[ja]at ht;split at ht
  .exact ih t ht
  .rename_i hx;simp only[Zo]at ht;rcases ht with rfl|ht
   .exact Int.mul_ne_zero hx aa
   .exact ih t ht
def in6(p:LiQ):Prop:=p.Nodup∧p.length<=6∧∀x∈p,x∈c6P
theorem Ns(hp:in6 p):∀t∈tq p s,t.1∈c6P:=fun t ht=>hp.2.2 _ (Bi t ht)
theorem adr{B:Nat}(hp:in6 p)(hb:0<b)(h:bdL b B s)(hB:B<9223372036854775808):aaB (tq p s):=by
 refine⟨?_,fun t ht=>?_⟩
 .have:=Bj (d:=pX 1 s) p s;have:=hp.2.1;unfold tq;omega
 .obtain⟨h1,h2⟩:=XW _ (Ns hp t ht);exact⟨h1,h2,Zk (KC hb (YJ h) h t ht) hB⟩
structure aiT(p:LiQ)(n:Nat)(r:LiQ)(q:Int):Prop where
 hp:pcB p=0
 hN:p.length<=20
 hl:0<p.length
 h0:0<n
 h1:n<=10000
 lr:r.length=p.length
 sr:smR r=true
 st:okS (Ha p n)
 of:okS (ofQ r)
 q1 : -1000000000000000000<q
 q2:q<1000000000000000000
 ti:okS (Nu p n q)
 er:okS (PZ p n q (ofQ r))
def ah7:LLQ:=[[2,3,5],[2,3],[2,3,5,7],[2,3,7],[3,5,7],[2],[2,5,7],[2,3,11],[2,3,5,13],[2,3,7,11]]
abbrev Rw:=LiQ
structure aiV(p:LiQ)(n:Nat)(l:List Rw)(qf:Rw->Int):Prop where
 hN:l.length<=60
 hE:∀r∈l,agD p n r (qf r)
def p13(k:Nat):LiQ:=ah7.getD (k%10) []
theorem aar{d:Int}(hd:d≠0)(h1 : -9223372036854775808<z)(h2:z<9223372036854775808)(h3 : -9223372036854775808<d)(h4:d<9223372036854775808):CP Y F.fM [I z,I d] (.agg (qT (vW z d))):=by refine yo ?_;have fo:CP Y F.j8 [I z,I d] (.tup [.agg [S (itoa (vW z d).1),S (ai (vW z d).2)],I 0]):=Mf hd h1 h2 h3 h4;simp[fM];refine cd fo ?_;simp;exact kX rfl rfl
def OE:LiQ:=[1,2,3,4,6,12]
def uH(b:Nat):Int:=OE.getD (b%6) 1
theorem ME(b:Nat):uH b=1∨uH b=2∨uH b=3∨uH b=4∨uH b=6∨uH b=12:=by unfold uH;have h:b%6<6:=Y7 _ ae;generalize b%6=j at *;have:j=0∨j=1∨j=2∨j=3∨j=4∨j=5:=aa;rcases this with rfl|rfl|rfl|rfl|rfl|rfl<;>simp[OE]
def frq(a:Int)(b:Nat):Q:=vW (a.tmod 41) (uH b)
theorem Gx{a:Int}(ha : -128<=a∧a<=127)(hb:b<256):CP Y F.eJ [.agg [.d (.int .i8 a),.d (.int .u8 b)]] (.agg (qT (frq a b))):=by
 refine uw ?_;have r1 : -41<a.tmod 41:=Int.lt_tmod_of_pos a ae;have r2:=Wn a (b:=41) ae;have hd:=ME b;have pt:CP Y F.fM [I (a.tmod 41),I (uH b)] (.agg [S (itoa (frq a b).1),S (ai (frq a b).2)]):=aar (z:=a.tmod 41) (d:=uH b) aa aa aa aa aa
 have hkk:b%6<6:=Y7 _ ae;have i1:=fun H:Hp=>kv di OE H (k:=.u8) (i:=((b%6:Nat):Int)) aa (by show((b%6:Nat):Int)<6;omega)
 have i2:=fun H:Hp=>aC di 1 OE H (j:=b%6) hkk
 have hn:nth 1 OE (b%6)=uH b:=rfl
 have m1:biI .rem (.d (.int .u8 (b:Int))) (.d (.int .u8 6))=some (.d (.int .u8 ((b%6:Nat):Int))):=by
  rw[abM aa,Zx aa];congr 3
 rw[hn]at i2;simp only[Int.toNat_natCast]at i1;obtain⟨c,hc⟩:=nmQ (OE.map di)
 have i1':∀H:Hp,ixV H 1 (.d (.sl 6 c)) (.d (.int .u8 ((b%6:Nat):Int)))=some (.dptr c (b%6)):=fun H=>by
  have:=i1 H;rw[<-hc]at this;rw[<-this,hc];rfl
 have i2':∀H:Hp,ld1 H (.dptr c (b%6))=some (I (uH b)):=fun H=>by rw[hc];exact i2 H
 have hl6:∀H:Hp,cO 6 [D.int IntKind.i64 0] [(0,V.d (D.int IntKind.i64 1)),(1,V.d (D.int IntKind.i64 2)),(2,V.d (D.int IntKind.i64 3)),(3,V.d (D.int IntKind.i64 4)),(4,V.d (D.int IntKind.i64 6)),(5,V.d (D.int IntKind.i64 12))] H=some (c,H):=fun H=>by
  rw[hc];simp[cO,jv,iH,toD,di,OE]
 have hm:((b:Int).tmod 6)=(b:Int)%6:=Zx aa;have i1'':∀H:Hp,ixV H 1 (.d (.sl 6 c)) (.d (.int .u8 ((b:Int)%6)))=some (.dptr c (b%6)):=i1';simp(disch:=try exact ag)[eJ,hl6,hm,i1'',i2'];refine cd pt ?_;simp;exact kX rfl rfl
def upI(x:Int->Int)(p:Int):Int:=if p=2 then x p else x p+1
def nf(x:Int->Int):List (Int×Int)->Int×Int->Int×Int
 |[],a=>a
 |t::ts,a=>nf x ts (if t.2<0 then(a.1+upI x t.1*t.2,a.2+x t.1*t.2)else(a.1+x t.1*t.2,a.2+upI x t.1*t.2))
theorem JD(n:Nat):∀(ts:List (Int×Int))(a:Int×Int),eA n ts a=nf (lgI n) ts a
 |[],a=>rfl
 | t::ts,a=>by
  simp only[eA,nf,upI,lgI];exact JD n ts _
def fxI(p:Int):Int:=((AI p.toNat).getD 0:Nat)
theorem FA{most:Int}:∀(ts:List (Int×Int))(a r:Int×Int),oL most ts a=some r->r=nf fxI ts a
 | [],a,r,h=>by
  simp only[oL,Z9]at h;exact h.symm
 | t::ts,a,r,h=>by
  simp only[oL]at h;split at h
  .cases h
  .split at h
   .cases h
   .rename_i f hf;have hx:fxI t.1=(f:Int):=by unfold fxI;rw[hf];rfl
    have ih:=FA ts _ r h;rw[ih,nf];congr 1;unfold upI;rw[hx];obtain⟨b,hb⟩:∃b:Int,b=if t.1=2 then(f:Int)else f+1:=⟨_,rfl⟩
    rw[<-hb];have hfb:(f:Int)<=b:=by rw[hb];split<;>omega
    by_cases hn:t.2<0
    .rw[if_pos hn];have:t.2*b<=t.2*f:=Int.mul_le_mul_of_nonpos_left aa hfb;rw[Int.min_eq_right this,Int.max_eq_left this,Xf b,Xf (f:Int)]
    .rw[if_neg hn];have:t.2*f<=t.2*b:=Int.mul_le_mul_of_nonneg_left hfb aa;rw[Int.min_eq_left this,Int.max_eq_right this,Xf b,Xf (f:Int)]
theorem xW{x:Int->Int}:∀(ts:List (Int×Int))(a:Int×Int),nf x ts a=(a.1+(nf x ts (0,0)).1,a.2+(nf x ts (0,0)).2)
 |[],a=>by simp[nf]
 | t::ts,a=>by
  simp only[nf];split
  .rw[xW ts,xW ts (0+_,0+_)];simp only[Ye,Wx]
  .rw[xW ts,xW ts (0+_,0+_)];simp only[Ye,Wx]
theorem Fz{x x':Int->Int}{K:Int}(hK:0<=K):∀ts:List (Int×Int),(∀t∈ts,x t.1*K<=x' t.1∧upI x' t.1<=upI x t.1*K)->(nf x ts (0,0)).1*K<=(nf x' ts (0,0)).1∧(nf x' ts (0,0)).2<=(nf x ts (0,0)).2*K
 |[],_=>by simp[nf]
 | t::ts,h=>by
  obtain⟨h1,h2⟩:=h t af;obtain⟨i1,i2⟩:=Fz hK ts fun u hu=>h u (by simp[hu])
  simp only[nf];rw[xW ts,xW (x:=x') ts];by_cases hn:t.2<0
  .rw[if_pos hn,if_pos hn];simp only[Ye,Wy];have m1:=Int.mul_le_mul_of_nonpos_right h2 (by omega:t.2<=0);have m2:=Int.mul_le_mul_of_nonpos_right h1 (by omega:t.2<=0);rw[Yz]at m1 m2;constructor<;>omega
  .rw[if_neg hn,if_neg hn];simp only[Ye,Wy];have m1:=Xs h1 (by omega:0<=t.2);have m2:=Xs h2 (by omega:0<=t.2);rw[Yz]at m1 m2;constructor<;>omega
def Ja(x:Int->Int)(K:Nat)(p:Int):Bool:=decide (x p*K<=lgI 2048 p)&&decide (upI (lgI 2048) p<=upI x p*K)
theorem Cb:∀p∈c6P,Ja fxI (2^2022) p=true∧Ja (lgI 64) (2^1984) p=true∧Ja (lgI 128) (2^1920) p=true∧Ja (lgI 256) (2^1792) p=true∧Ja (lgI 512) (2^1536) p=true∧Ja (lgI 1024) (2^1024) p=true:=bb
theorem UL{x:Int->Int}{K:Nat}(h:∀t∈ts,Ja x K t.1=true):(nf x ts (0,0)).1*K<=(nf (lgI 2048) ts (0,0)).1∧(nf (lgI 2048) ts (0,0)).2<=(nf x ts (0,0)).2*K:=by
 refine Fz aa ts fun t ht=>?_
 have:=h t ht;simp only[Ja,Z8,decide_eq_true_eq]at this;exact this
theorem B4{x:Int->Int}{K:Nat}(h:∀t∈ts,Ja x K t.1=true)(hT:qD (lgI 2048) ts≠0):
  (0<=(nf x ts (0,0)).1->(qD (lgI 2048) ts).sign=1)∧((nf x ts (0,0)).2<=0->(qD (lgI 2048) ts).sign = -1):=by
 obtain⟨n1,n2⟩:=UL h;obtain⟨g1,g2,_⟩:=AM 2048 ts;rw[JD]at g1 g2;refine⟨fun h0=>?_,fun h0=>?_⟩
 .have:=Int.mul_nonneg h0 (by omega:(0:Int)<=K);exact X3 aa
 .have:=Int.mul_nonneg (a:=-(nf x ts (0,0)).2) (b:=(K:Int)) aa aa;rw[Int.neg_mul]at this;exact X2 aa
theorem WT(hT:qD (lgI 2048) ts≠0):
  (0<=(eA 2048 ts (0,0)).1->(qD (lgI 2048) ts).sign=1)∧((eA 2048 ts (0,0)).2<=0->(qD (lgI 2048) ts).sign = -1):=by obtain⟨g1,g2,_⟩:=AM 2048 ts;exact⟨fun h0=>X3 aa,fun h0=>X2 aa⟩
theorem ZX(hm:∀t∈ts,t.1∈c6P)(hn:(ts.map Prod.fst).Nodup)(h0:∀t∈ts,t.2≠0)(hl:ts.length<=6)(hb:∀t∈ts,t.2.natAbs<9223372036854775808):KZ ts=some (qD (lgI 2048) ts).sign:=by
 cases ts with
 |nil=>rfl
 | cons t l=>
  obtain⟨ts,hts⟩:∃ts,ts=t::l:=⟨_,rfl⟩;have hne:ts≠[]:=by rw[hts];simp
  rw[<-hts]at hm hn h0 hl hb ⊢;have h1:=IC (C:=9223372036854775808) ts fun t ht=>Nat.le_of_lt (hb t ht)
  have h2:ts.length*9223372036854775808<=6*9223372036854775808:=Zz _ hl;have hb1:zF ts<=73786976294838206464:=aa
  have hT:qD (lgI 2048) ts≠0:=by
   intro e;have hz:=BG (n:=2048) JR rfl XX hm hb1 (by rw[e];simp);rw[hts]at hz hm hn h0;have:=hz t.1 (hm t af);simp only[Z2,Xm]at hn;rw[cfT,if_pos rfl,DT l hn.1]at this;exact h0 t af aa
  have dec:=aaa (n:=2048) JR rfl XX hm hn h0 hb1 hb1 hne;obtain⟨f1,f2⟩:=B4 (x:=fxI) (K:=2^2022) (fun t ht=>(Cb _ (hm t ht)).1) hT;have e:KZ ts=if qY ts≠0 then some (qY ts)else IM ts 6 64:=by rw[hts];rfl
  rw[e];by_cases hq:qY ts≠0
  .rw[if_pos hq];unfold qY at hq ⊢;split at hq
   .exact absurd rfl hq
   .rename_i a ha;have ea:=FA _ _ _ ha;rw[<-ea]at f1 f2;by_cases c1:0<=a.1
    .rw[if_pos c1,f1 c1]
    .rw[if_neg c1];rw[if_neg c1]at hq;by_cases c2:a.2<=0
     .rw[if_pos c2,f2 c2]
     .rw[if_neg c2]at hq;exact absurd rfl hq
  .rw[if_neg hq]
   have step:∀(r n:Nat)(nx:Option Int),(0<=(eA n ts (0,0)).1->(qD (lgI 2048) ts).sign=1)->((eA n ts (0,0)).2<=0->(qD (lgI 2048) ts).sign = -1)->(IM ts r (n*2)=some (qD (lgI 2048) ts).sign∨(0<=(eA n ts (0,0)).1∨(eA n ts (0,0)).2<=0))->IM ts (r+1) n=some (qD (lgI 2048) ts).sign:=by
    intro r n nx a1 a2 a3;unfold IM;by_cases c1:0<=(eA n ts (0,0)).1
    .rw[if_pos c1,a1 c1]
    .rw[if_neg c1];by_cases c2:(eA n ts (0,0)).2<=0
     .rw[if_pos c2,a2 c2]
     .rw[if_neg c2];rcases a3 with h|h|h
      .exact h
      .exact absurd h c1
      .exact absurd h c2
   have l64:=B4 (x:=lgI 64) (K:=2^1984) (fun t ht=>(Cb _ (hm t ht)).2.1) hT;have l128:=B4 (x:=lgI 128) (K:=2^1920) (fun t ht=>(Cb _ (hm t ht)).2.2.1) hT;have l256:=B4 (x:=lgI 256) (K:=2^1792) (fun t ht=>(Cb _ (hm t ht)).2.2.2.1) hT;have l512:=B4 (x:=lgI 512) (K:=2^1536) (fun t ht=>(Cb _ (hm t ht)).2.2.2.2.1) hT
   have l1024:=B4 (x:=lgI 1024) (K:=2^1024) (fun t ht=>(Cb _ (hm t ht)).2.2.2.2.2) hT;rw[<-JD]at l64 l128 l256 l512 l1024;have l2048:=WT hT
   exact step 5 64 none l64.1 l64.2 (.inl (step 4 128 none l128.1 l128.2 (.inl (step 3 256 none l256.1 l256.2 (.inl (step 2 512 none l512.1 l512.2 (.inl (step 1 1024 none l1024.1 l1024.2 (.inl (step 0 2048 none l2048.1 l2048.2 (.inr dec)))))))))))
def rpl(b:Nat):List Q->LiQ->Prop
 |x::s,a::r=>rp b x a∧rpl b s r
 |[],[]=>True
 |_,_=>False
def dI(z:Int):LiQ->LiQ->LiQ
 |a::r,c::t=>(a+z*c)::dI z r t
 |_,_=>[]
theorem IQ{b:Nat}:∀{s:List Q}{r:LiQ},rpl b s r->r.length=s.length
 |[],[],_=>rfl
 |x::s,a::r,h=>by simp[IQ h.2]
 |[],_::_,h=>h.elim
 |_::_,[],h=>h.elim
theorem uy{b:Nat}(z:Int):∀{o s:List Q}{r t:LiQ},o.length=s.length->rpl b o r->rpl b s t->rpl b (yx (z,1) o s) (dI z r t)
 |[],[],[],[],_,_,_=>trivial
 | x::o,y::s,a::r,c::t,hl,h1,h2=>by
  simp only[yx,dI];exact⟨NP h1.1 (aah z h2.1),uy z (by simpa using hl) h1.2 h2.2⟩
 |[],_::_,_,_,hl,_,_=>by simp at hl
 |_::_,[],_,_,hl,_,_=>by simp at hl
 |[],[],_::_,_,_,h,_=>h.elim
 |[],[],[],_::_,_,_,h=>h.elim
 |_::_,_::_,[],_,_,h,_=>h.elim
 |_::_,_::_,_::_,[],_,_,h=>h.elim
theorem xJ(b:Nat):∀n:Nat,rpl b (List.replicate n (0,1)) (List.replicate n 0)
 |0=>trivial
 | n+1=>by
  rw[List.replicate_succ,List.replicate_succ];exact⟨Pt b,xJ b n⟩
theorem xL{b:Nat}(m:Nat):∀{s:List Q}{r:LiQ},rpl b s r->rpl (b*m) s (r.map fun a=>a*m)
 |[],[],_=>trivial
 |x::s,a::r,h=>⟨TL m h.1,xL m h.2⟩
 |[],_::_,h=>h.elim
 |_::_,[],h=>h.elim
theorem FB(z:Int):∀{r t L:LiQ},r.length=t.length->bE (dI z r t) L=bE r L+z*bE t L
 |[],[],L,_=>by simp[dI,bE]
 |a::r,c::t,[],_=>by simp[dI,bE]
 | a::r,c::t,l::L,h=>by
  simp only[dI,bE,FB z (r:=r) (t:=t) (L:=L) (by simpa using h),Wy,Int.mul_add,Int.mul_assoc];omega
 |[],_::_,_,h=>by simp at h
 |_::_,[],_,h=>by simp at h
theorem HX:∀(n:Nat)(L:LiQ),bE (List.replicate n 0) L=0
 |0,L=>by simp[bE]
 |n+1,[]=>by simp[List.replicate_succ,bE]
 |n+1,l::L=>by simp[List.replicate_succ,bE,HX n L]
theorem BV(m:Int):∀(r L:LiQ),bE (r.map fun a=>a*m) L=bE r L*m
 |[],L=>by simp[bE]
 |a::r,[]=>by simp[bE]
 | a::r,l::L=>by
  simp only[Z2,bE,BV m r L,Wy];rw[Yz]
theorem hQ(z:Int):∀{r t:LiQ},r.length=t.length->(dI z r t).length=r.length
 |[],[],_=>rfl
 |a::r,c::t,h=>by simp[dI,hQ z (r:=r) (t:=t) (by simpa using h)]
 |[],_::_,h=>by simp at h
 |_::_,[],h=>by simp at h
theorem NO{b B:Nat}:∀{s:List Q}{r:LiQ},rpl b s r->(∀a∈r,a.natAbs<=B)->bdL b B s
 |[],[],_,_=>fun x hx=>by simp at hx
 | x::s,a::r,h,hb=>by
  have ih:=NO h.2 fun c hc=>hb c (by simp[hc])
  intro y hy;simp only[Zo]at hy;rcases hy with rfl|hy
  .exact⟨a,h.1,hb a af⟩
  .exact ih y hy
 |[],_::_,h,_=>h.elim
 |_::_,[],h,_=>h.elim
theorem Kt{b d:Nat}(h:Int->Int)(hb:0<b)(hd:d∣b):∀{p:LiQ}{s:List Q}{r:LiQ},s.length=p.length->rpl b s r->(∀x∈s,x.2∣d)->qD h (ja d p s)*((b/d:Nat):Int)=bE r (p.map h)
 |[],[],[],_,_,_=>by simp[ja,qD,bE]
 | c::p,x::s,a::r,hl,hr,hv=>by
  have ih:=Kt h hb hd (p:=p) (s:=s) (r:=r) (by simpa using hl) hr.2 fun y hy=>hv y (by simp[hy])
  have hx:=hv x af;have p1:=hr.1.1.1;have d0:0<d:=Nat.pos_of_dvd_of_pos hd hb
  have key:x.1*((d/x.2:Nat):Int)*((b/d:Nat):Int)=a:=by
   obtain⟨u,hu⟩:=hx;obtain⟨v,hv'⟩:=hd;have e1:d/x.2=u:=by rw[hu];exact Xo _ p1
   have e2:b/d=v:=by rw[hv'];exact Xo _ d0
   rw[e1,e2];have h2:=hr.1.2;rw[hv',hu,Int.natCast_mul,Int.natCast_mul]at h2;refine Int.eq_of_mul_eq_mul_right (a:=(x.2:Int)) aa ?_;rw[<-h2];simp only[Xf,Int.mul_left_comm,Int.mul_assoc]
  simp only[ja];split
  .rename_i h0;rw[h0]at key;simp only[Int.zero_mul]at key;rw[ih,Z2,bE,<-key];simp
  .rw[qD,Wy,ih,Z2,bE];simp only;rw[Yz,key]
 |[],_::_,_,hl,_,_=>by simp at hl
 |_::_,[],_,hl,_,_=>by simp at hl
 |[],[],_::_,_,h,_=>h.elim
 |_::_,_::_,[],_,h,_=>h.elim
theorem u5{k:Int}(hk:0<k):(z*k).sign=z.sign:=by rw[Int.sign_mul,X3 hk,Int.mul_one]
def L5(p:LiQ):LiQ:=p.map (lgI 2048)
theorem Tz{B:Nat}(hp:in6 p)(hl:s.length=p.length)(hb:0<b)(hr:rpl b s r)(hB:∀a∈r,a.natAbs<=B)(hB2:B<9223372036854775808):K3 p s ((bE r (L5 p)).sign):=by
 have bd:=NO hr hB;have h1:=adr hp hb bd hB2;have hd:∀x∈s,0<x.2:=fun x hx=>(agw hb bd x hx).1
 have hll:(tq p s).length<=6:=by
  have:=Bj (d:=pX 1 s) p s;have:=hp.2.1;unfold tq;omega
 have dv:∀x∈s,x.2∣pX 1 s:=fun x hx=>(FF (s:=s) (d:=1)).2 x hx
 have d0:0<pX 1 s:=FE ae hd;have dd:=YJ bd;have hs:=ZX (Ns hp) (KA hp.1) (KB d0 fun x hx=>⟨hd x hx,dv x hx⟩) hll fun t ht=>(h1.2 t ht).2.2
 refine⟨adU h1,aeE (Ns hp),?_⟩;rw[hs];have:=Kt (lgI 2048) hb dd hl hr dv;unfold L5;rw[<-this,u5]
 .rfl
 .have:=V4 (Wv hb dd) d0;omega
theorem acJ{a b:List Q}{B:Nat}(hp:in6 p)(la:a.length=p.length)(lb:b.length=p.length)(n0:0<n)(m0:0<m)(ha:rpl n a r)(hb:rpl m b t)(hA:∀x∈r,x.natAbs<=A)(hB:∀x∈t,x.natAbs<=B)(hC:A*m+B*n<9223372036854775808):
  K3 p (dfS p a b) ((bE r (L5 p)*m-bE t (L5 p)*n).sign):=by
 have lr:=IQ ha;have lt:=IQ hb;have r1:=xL m ha;have r2:=xL n hb;rw[Zt m n]at r2;have z:=xJ (n*m) p.length;have s1:=uy 1 (by simp[la]) z r1;have s2:=uy (-1) (by rw[tD _ _ _ (by simp[la]),la,lb]) s1 r2;have e:yx (-1,1) (yx (1,1) (List.replicate p.length (0,1)) a) b=dfS p a b:=by simp[dfS,qX,Gd]
 rw[e]at s2;have h1:(dI 1 (List.replicate p.length 0) (r.map fun a=>a*(m:Int))).length=p.length:=by rw[hQ _ (by simp[lr,la])];simp
 have hd:bE (dI (-1) (dI 1 (List.replicate p.length 0) (r.map fun a=>a*(m:Int))) (t.map fun a=>a*(n:Int))) (L5 p)=bE r (L5 p)*m-bE t (L5 p)*n:=by
  rw[FB _ (by rw[h1];simp[lt,lb]),FB _ (by simp[lr,la]),HX,BV,BV];omega
 have ld:(dfS p a b).length=p.length:=by rw[<-e,tD _ _ _ (by rw[tD _ _ _ (by simp[la]),la,lb]),lb]
 rw[<-hd];refine Tz hp ld (Yx n0 m0) s2 (B:=A*m+B*n) ?_ hC
 have vb:∀(z:Int)(X Y:Nat)(u v:LiQ),(∀x∈u,x.natAbs<=X)->(∀x∈v,x.natAbs<=Y)->∀x∈dI z u v,x.natAbs<=X+z.natAbs*Y:=by
  intro z X Y u
  induction u with
  |nil=>intro v _ _ x hx;simp[dI]at hx
  | cons a u ih=>
   intro v h1 h2 x hx;cases v with
   |nil=>simp[dI]at hx
   | cons c v=>
    simp only[dI,Zo]at hx;rcases hx with rfl|hx
    .have q1:=h1 a af;have q2:=h2 c af;have q3:=Int.natAbs_add_le a (z*c);rw[Y2]at q3;have q4:=Zw z.natAbs q2;omega
    .exact ih v (fun y hy=>h1 y (by simp[hy])) (fun y hy=>h2 y (by simp[hy])) x hx
 have q1:∀x∈r.map (fun a=>a*(m:Int)),x.natAbs<=A*m:=fun x hx=>by
  obtain⟨y,hy,rfl⟩:=Zc.1 hx;rw[Y2,Int.natAbs_natCast];exact Zz _ (hA y hy)
 have q2:∀x∈t.map (fun a=>a*(n:Int)),x.natAbs<=B*n:=fun x hx=>by
  obtain⟨y,hy,rfl⟩:=Zc.1 hx;rw[Y2,Int.natAbs_natCast];exact Zz _ (hB y hy)
 have q3:=vb 1 0 (A*m) (List.replicate p.length 0) _ (fun x hx=>by rw[List.mem_replicate]at hx;rw[hx.2];simp) q1;have q4:=vb (-1) _ (B*n) _ _ q3 q2;intro x hx;have:=q4 x hx;simpa using this
variable{l:Int->Nat}{N:Nat}
def BB(f:Int->Nat):LiQ->LiQ->Nat
 |q::ps,x::xs=>(if 0<x then x.natAbs*f q else 0)+BB f ps xs
 |_,_=>0
def BF(f:Int->Nat):LiQ->LiQ->Nat
 |q::ps,x::xs=>(if 0<x then 0 else x.natAbs*f q)+BF f ps xs
 |_,_=>0
theorem Li(b k N:Nat):(b^N)^k=(b^k)^N:=by rw[<-Xc,Zt,Xc]
theorem N3{N:Nat}(h:2^v<=b^N):2^(k*v)<=(b^k)^N:=by
 have e:2^(k*v)=(2^v)^k:=by rw[Zt,Xc]
 rw[e,<-Li b k N];exact X0 h k
theorem N4{N:Nat}(h:b^N<=2^v):(b^k)^N<=2^(k*v):=by
 have e:2^(k*v)=(2^v)^k:=by rw[Zt,Xc]
 rw[e,<-Li b k N];exact X0 h k
theorem Et:∀(p x:LiQ)(n d a b:Nat),(∀q∈p,2^l q<=q.toNat^N)->2^a<=n^N->2^b<=d^N->2^(a+BB l p x)<=(kr n d p x).1^N∧2^(b+BF l p x)<=(kr n d p x).2^N
 |[],x,n,d,a,b,_,ha,hb=>by cases x<;>exact⟨ha,hb⟩
 |q::ps,[],n,d,a,b,_,ha,hb=>⟨ha,hb⟩
 | q::ps,z::xs,n,d,a,b,h,ha,hb=>by
  have hq:=N3 (k:=z.natAbs) (h q af);have h':∀y∈ps,2^l y<=y.toNat^N:=fun y hy=>h y (by grind)
  simp only[kr,BB,BF];by_cases hz:0<z
  .simp only[if_pos hz];have m:2^(a+z.natAbs*l q)<=(n*q.toNat^z.natAbs)^N:=by rw[Y6,Nat.mul_pow];exact Zn ha hq
   have:=Et ps xs _ d _ b h' m hb
   grind
  .simp only[if_neg hz];have m:2^(b+z.natAbs*l q)<=(d*q.toNat^z.natAbs)^N:=by rw[Y6,Nat.mul_pow];exact Zn hb hq
   have:=Et ps xs n _ a _ h' ha m
   grind
theorem Ev:∀(p x:LiQ)(n d a b:Nat),(∀q∈p,q.toNat^N<=2^l q)->n^N<=2^a->d^N<=2^b->(kr n d p x).1^N<=2^(a+BB l p x)∧(kr n d p x).2^N<=2^(b+BF l p x)
 |[],x,n,d,a,b,_,ha,hb=>by cases x<;>exact⟨ha,hb⟩
 |q::ps,[],n,d,a,b,_,ha,hb=>⟨ha,hb⟩
 | q::ps,z::xs,n,d,a,b,h,ha,hb=>by
  have hq:=N4 (k:=z.natAbs) (h q af);have h':∀y∈ps,y.toNat^N<=2^l y:=fun y hy=>h y (by grind)
  simp only[kr,BB,BF];by_cases hz:0<z
  .simp only[if_pos hz];have m:(n*q.toNat^z.natAbs)^N<=2^(a+z.natAbs*l q):=by rw[Y6,Nat.mul_pow];exact Zn ha hq
   have:=Ev ps xs _ d _ b h' m hb
   grind
  .simp only[if_neg hz];have m:(d*q.toNat^z.natAbs)^N<=2^(b+z.natAbs*l q):=by rw[Y6,Nat.mul_pow];exact Zn hb hq
   have:=Ev ps xs n _ a _ h' ha m
   grind
theorem Lm:∀(p x:LiQ),(∀z∈x,z.natAbs<=1000)->BB (fun q=>l q+1) p x<=BB l p x+1000*x.length∧BF (fun q=>l q+1) p x<=BF l p x+1000*x.length
 |[],x,_=>by cases x<;>simp[BB,BF]
 |q::ps,[],_=>by simp[BB,BF]
 | q::ps,z::xs,h=>by
  have hz:=h z af;obtain⟨i1,i2⟩:=Lm ps xs fun y hy=>h y (by grind)
  grind[BB,BF]
theorem Qz:∀(p x:LiQ),bE x (p.map fun q=>(l q:Int))=(BB l p x:Int)-(BF l p x:Int)
 |[],x=>by cases x<;>simp[bE,BB,BF]
 |q::ps,[]=>by rfl
 | q::ps,z::xs=>by
  have:=Qz ps xs;simp only[Z2,bE,BB,BF,this];by_cases g:0<z
  .simp only[if_pos g];have e:((z.natAbs*l q:Nat):Int)=z*(l q:Int):=by rw[Int.natCast_mul,Wz aa]
   omega
  .simp only[if_neg g]
   have e:((z.natAbs*l q:Nat):Int) = -(z*(l q:Int)):=by
    rw[Int.natCast_mul,X4 aa,Int.neg_mul]
   omega
theorem PQ{a N B:Nat}(h1:2^A<=a^N)(h2:b^N<=2^B)(h:B<A):b<a:=by
 refine Nat.lt_of_not_le fun g=>?_
 have h3:a^N<=b^N:=X0 g N;have h4:2^B<2^A:=Nat.pow_lt_pow_right ae h;omega
theorem NK{x:LiQ}(h:∀q∈p,2^l q<=q.toNat^N∧q.toNat^N<=2^(l q+1))(hx:∀z∈x,z.natAbs<=1000)(hN:0<N):
  (1000*(x.length:Int)<bE x (p.map fun q=>(l q:Int))->(kV p x).2<(kV p x).1)∧(bE x (p.map fun q=>(l q:Int)) < -(1000*(x.length:Int))->(kV p x).1<(kV p x).2):=by have o1:(2:Nat)^0<=1^N:=af;have o2:1^N<=(2:Nat)^0:=af;obtain⟨a1,a2⟩:=Et (l:=l) (N:=N) p x 1 1 0 0 (fun q hq=>(h q hq).1) o1 o1;obtain⟨b1,b2⟩:=Ev (l:=fun q=>l q+1) (N:=N) p x 1 1 0 0 (fun q hq=>(h q hq).2) o2 o2;obtain⟨c1,c2⟩:=Lm (l:=l) p x hx;rw[Qz];refine⟨fun g=>PQ a1 b2 aa,fun g=>PQ a2 b1 aa⟩
theorem aac{t:List Q}(hp:pcB p=0)(hN:p.length<1000000)(hl:s.length=p.length)(hs:okS s)(hlt:t.length=p.length)(ht:okS t)(hr:okS (qX p.length [s,t] [(1,1),(1,1)])):
  CP Y F.qG [lst di p,szV s,szV t] (.tup [szV (qX p.length [s,t] [(1,1),(1,1)]),I 0]):=by
 refine NI ?_
 have cb:=FM (p:=p) (l:=[s,t]) (fs:=[(1,1),(1,1)]) hp hN af rfl (fun u hu=>by
  simp at hu;rcases hu with rfl|rfl
  .exact⟨hl,hs⟩
  .exact⟨hlt,ht⟩) (fun x hx=>by
  simp at hx;subst hx;exact UK 1 aa aa) hr
 have l1:∀H,cO 2 [nPQ] [(0,szV s),(1,szV t)] H=some ([szD s,szD t],H):=fun H=>Vt ..
 have l2:∀H,cO 2 [D.str [],D.str []] [(0,.agg (qT (1,1))),(1,.agg (qT (1,1)))] H=some (aK (tx (1,1))++aK (tx (1,1)),H):=fun H=>acw (1,1) (1,1) H
 simp[qG,l1];refine cd (oJ (z:=1) aa aa) ?_;simp;refine cd (oJ (z:=1) aa aa) ?_;simp[l2];refine cd (v:=.tup [szV (qX p.length [s,t] [(1,1),(1,1)]),I 0]) cb ?_ (by simp[aS,bJ,norm]);simp;exact aG (zE _ _) rfl
structure aiU(p:LiQ)(l:List Rw):Prop where
 pc:pcB p=0
 i6:in6 p
 hl:0<p.length
 rw:∀r∈l,r.length=p.length∧∀x∈r,x.natAbs<=9
theorem T8:CP Y F.qJ [I z] (B (tO z)):=by
 refine NQ ?_;by_cases h : -1000000000<=z
 .by_cases h2:z<=1000000000
  .simp[qJ,h,h2];exact nN (by simp[tO,h,h2])
  .simp[qJ,h,h2];exact nN (by simp[tO,h,h2])
 .simp[qJ,h];exact nN (by simp[tO,h])
def rcB(l:LiQ):Int:=if 64<l.length∨(l.any fun x=>!tO x)=true then 4 else 0
theorem IX{l:LiQ}(hN:l.length<1000000000):CP Y F.nF [lst di l] (I (rcB l)):=by
 refine K9 ?_
 have co:=xw (g:=F.nE) (p:=fun x=>!tO x) l aa (fun x _=>by
  refine EF ?_;simp[nE];refine cd T8 ?_;simp)
 by_cases h:64<l.length
 .have g:(64:Int)<(l.length:Int):=aa;simp[nF,g];exact cx (by simp[rcB,h])
 .have g:¬(64:Int)<(l.length:Int):=aa;simp[nF,g];refine cd co ?_;cases e:l.any fun x=>!tO x with
  |true=>simp;exact cx (by simp only[rcB,e,or_true,if_true])
  |false=>simp;exact cx (by simp only[rcB,e,h];rfl)
theorem w7{l:LiQ}:rcB l=0↔l.length<=64∧∀x∈l,tO x=true:=by
 unfold rcB;by_cases h:64<l.length∨(l.any fun x=>!tO x)=true
 .rw[if_pos h];simp only[List.any_eq_true,Y9]at h;constructor
  .intro e;cases e
  .rintro⟨h1,h2⟩;rcases h with h|⟨x,hx,hx2⟩
   .omega
   .rw[h2 x hx]at hx2;cases hx2
 .rw[if_neg h];refine⟨fun _=>⟨aa,fun x hx=>?_⟩,fun _=>rfl⟩;cases e:tO x with
  |true=>rfl
  |false=>exact absurd (.inr (List.any_eq_true.2 ⟨x,hx,by simp[e]⟩)) h
theorem adJ(l:LiQ):rcB l=0∨rcB l=4:=by unfold rcB;split<;>simp
theorem aag{l:LiQ}(hN:l.length<1000000000):CP Y F.oG [lst di l] (.tup [if rcB l=0 then lst di l else lst di [],I (rcB l)]):=by
 refine IT ?_;have rc:=IX hN;simp[oG];refine cd rc ?_;rcases adJ l with h|h
 .rw[h];simp;exact⟨[],by simp[bJ,aS]⟩
 .rw[h];simp;exact⟨[],by simp[bJ,aS,lst]⟩
def hq1(l:List Tx):Hp:=[(1,.data 2 (l.flatMap aK) true false)]
structure agF(p:LiQ)(m:Nat)(bd:List Q):Prop where
 m0:0<m
 m1:m<=1000
 ln:bd.length=p.length
 bd:bdL m 1000 bd
theorem agF.ok(b:agF p m bd):okS bd:=YI b.m0 b.bd (by have:=b.m1;omega) aa
theorem HT:∀(q:LiQ)(o:Option Int),Cz o q=true->(∀x∈q,ta x=true)∧q.Nodup∧∀x∈q,∀y,o=some y->y<x
 |[],_,_=>by simp
 | x::q,o,h=>by
  simp only[Cz,Z8]at h;obtain⟨h1,h2,h3⟩:=HT q (some x) (by grind);refine⟨by grind,?_,?_⟩
  .rw[Xm];refine⟨fun hm=>?_,h2⟩;have:=h3 x hm x rfl;omega
  .intro y hy z hz;subst hz;have hx:z<x:=by grind[By]
   rcases Zo.1 hy with rfl|hy
   .exact hx
   .have:=h3 y hy x rfl;omega
theorem Tl(h:smR r=true):∀x∈r,x.natAbs<=1000:=by intro x hx;simp only[smR,Zv,Z8,decide_eq_true_eq]at h;have:=h x hx;omega
theorem Ux(h:pcB p=0):p.Nodup∧p.length<=6∧0<p.length:=by
 have e:=Uy p;rw[h]at e;have e:Dn p=true:=by rw[<-e];rfl
 simp only[Dn,Z8,decide_eq_true_eq]at e;exact⟨(HT p none e.1.1).2.1,e.2,e.1.2⟩
def pcS(p:LiQ):Prop:=pcB p=0∧∀x∈p,x∈c6P
theorem eh(h:pcS p):in6 p∧0<p.length:=⟨⟨(Ux h.1).1,(Ux h.1).2.1,h.2⟩,(Ux h.1).2.2⟩
def aA(m:LLQ):D:=.sl m.length (m.map row)
@[simp]theorem RX(m:LLQ):bj (.d (aA m))=some (I m.length):=rfl
abbrev Lk:=Int×Int
def lkC(x:Lk):LdQ:=[di x.1,di x.2]
theorem tQ(x:Lk):(lkC x).length=2:=rfl
def lkD(l:List Lk):D:=.sl l.length (l.flatMap lkC)
@[simp]theorem afW(l:List Lk):bj (.d (lkD l))=some (I l.length):=rfl
def wkC(p:LiQ)(ch:List LLQ)(lk:List (List Lk)):LwQ:=[lst di p,lst aA ch,lst lkD lk]
def wkB(p:LiQ)(ch:List LLQ)(lk:List (List Lk)):Nat×Bk:=(1,.vars (wkC p ch lk))
def B7(n most:Nat):Int:=if n=0 then 13 else if most<n then 4 else 0
theorem FK(n most:Nat):CP Y F.jf [I n,I most] (I (B7 n most)):=by
 refine GA ?_;unfold B7;by_cases h:n=0
 .rw[if_pos h];have h':(n:Int)=0:=aa;simp[jf,h']<;>exact cx rfl
 .rw[if_neg h];have h':¬(n:Int)=0:=aa;by_cases g:most<n
  .rw[if_pos g];have g':(most:Int)<n:=aa;simp(disch:=try exact ag)[jf,h',g']<;>exact cx rfl
  .rw[if_neg g];have g':¬(most:Int)<n:=aa;simp(disch:=try exact ag)[jf,h',g']<;>exact cx rfl
def JO(p:LiQ):List LLQ->Int
 |[]=>0
 |c::l=>if B7 c.length 12≠0 then B7 c.length 12 else if mzB p c≠0 then mzB p c else JO p l
theorem acN{p:LiQ}{ch:List LLQ}{lk:List (List Lk)}(hp:p.length<1000000000)(hc:∀c∈ch,c.length<1000000000)(hN:ch.length<1000000)(k:KL):∀(q a:List LLQ),a++q=ch ->
  (JO p q=0->k (.exit 0) [] [wkB p ch lk,nnQ])->(JO p q≠0->k .ret [I (JO p q)] [wkB p ch lk,nnQ]) ->
  lp (pM (CX Y) (.ptr 0 1 0 3) (lst aA ch) (I ch.length)) [] [wkB p ch lk,nnQ] [I a.length] [wkB p ch lk,nnQ] k
 | [],a,ha,h0,h1=>by
  have e:a.length=ch.length:=by rw[<-ha];simp
  refine aj ?_;simp[pM,e];exact h0 rfl
 | c::q,a,ha,h0,h1=>by
  have hl:ch.length=a.length+(q.length+1):=by rw[<-ha];simp
  have hcl:=hc c (by grind);have i1:∀h:Hp,ixV h 1 (lst aA ch) (I a.length)=some (.dptr (ch.map aA) a.length):=fun h=>aJ aA _ h rfl aa
  have i2:∀h:Hp,ld1 h (.dptr (ch.map aA) a.length)=some (.d (aA c)):=fun h=>by rw[aC aA [] ch h aa,<-ha,bM]
  have f1:ld1 [wkB p ch lk,nnQ] (.ptr 0 1 0 3)=some (lst di p):=rfl;refine aj ?_;simp only[JO]at h0 h1;simp(disch:=try exact ag)[pM,i1,i2];refine cd (FK c.length 12) ?_;by_cases g:B7 c.length 12=0
  .rw[if_neg (by simp[g])]at h0 h1;simp[g,f1];refine cd (args:=[lst di p,mat c]) (tP hp hcl) ?_;by_cases g2:mzB p c=0
   .rw[if_neg (by simp[g2])]at h0 h1;simp(disch:=try exact ag)[g2];have:=acN hp hc hN k q (a++[c]) (by grind) h0 h1
    simp_all
   .rw[if_pos g2]at h1;simp[g2]
    grind
  .rw[if_pos g]at h1;simp[g]
   grind
def BJ(a b:Nat)(x:Lk):Bool:=decide (0<=x.1)&&decide (x.1<a)&&decide (0<=x.2)&&decide (x.2<b)
def Jp(ch:List LLQ):Nat->List (List Lk)->Int
 |_,[]=>0
 |i,l::ls=>if B7 l.length 12≠0 then B7 l.length 12 else if l.all (BJ (nth [] ch i).length (nth [] ch (i+1)).length)=true then Jp ch (i+1) ls else 3
theorem acL{p:LiQ}{ch:List LLQ}{lk:List (List Lk)}{i:Nat}(hi:i+1<ch.length)(hN:ch.length<1000000){l:List Lk}(hl:l.length<1000000)(k:KL):∀(q a:List Lk),a++q=l ->
  (q.all (BJ (nth [] ch i).length (nth [] ch (i+1)).length)=true->k (.exit 4) [] [wkB p ch lk,nnQ])->(q.all (BJ (nth [] ch i).length (nth [] ch (i+1)).length)=false->∀h,k .ret [I 3] h) ->
  lp (ie (CX Y) (.ptr 0 1 0 3) (I i) (.d (lkD l)) (I l.length)) [1] [wkB p ch lk,nnQ] [I a.length] [wkB p ch lk,nnQ] k
 | [],a,ha,h0,h1=>by
  have e:a.length=l.length:=by rw[<-ha];simp
  refine aj ?_;simp[ie,e]
  grind
 | (f,t)::q,a,ha,h0,h1=>by
  have hll:l.length=a.length+(q.length+1):=by rw[<-ha];simp
  have i1:∀h:Hp,ixV h 2 (.d (lkD l)) (I a.length)=some (.dptr (l.flatMap lkC) (a.length*2)):=fun h=>by
   have:=ou lkC tQ l h (k:=.i64) (i:=(a.length:Int)) aa aa;trivial
  have i2:∀h:Hp,ldA h 2 (.dptr (l.flatMap lkC) (a.length*2))=some (.agg [I f,I t]):=fun h=>by
   have:=ot lkC tQ ((0,0):Lk) l h (j:=a.length) aa;rw[this,<-ha,bM];rfl
  have f1:∀b:Nat×Bk,ld1 [wkB p ch lk,b] (.ptr 0 1 1 3)=some (lst aA ch):=fun _=>rfl
  have c1:∀(h:Hp),ixV h 1 (lst aA ch) (I i)=some (.dptr (ch.map aA) i):=fun h=>aJ aA _ h rfl aa
  have c2:∀(h:Hp),ld1 h (.dptr (ch.map aA) i)=some (.d (aA (nth [] ch i))):=fun h=>aC aA [] ch h aa
  have c3:∀(h:Hp),ixV h 1 (lst aA ch) (I ((i:Int)+1))=some (.dptr (ch.map aA) (i+1)):=fun h=>aJ aA _ h aa aa
  have c4:∀(h:Hp),ld1 h (.dptr (ch.map aA) (i+1))=some (.d (aA (nth [] ch (i+1)))):=fun h=>aC aA [] ch h aa
  simp only[List.all_cons]at h0 h1;refine aj ?_;by_cases b1:f<0
  .simp(disch:=try exact ag)[ie,i1,i2,b1]
   grind[BJ]
  .by_cases b2:((nth [] ch i).length:Int)<=f
   .simp(disch:=try exact ag)[ie,i1,i2,b1,f1,c1,c2,b2]
    grind[BJ]
   .by_cases b3:t<0
    .simp(disch:=try exact ag)[ie,i1,i2,b1,f1,c1,c2,b2,b3]
     grind[BJ]
    .by_cases b4:((nth [] ch (i+1)).length:Int)<=t
     .simp(disch:=try exact ag)[ie,i1,i2,b1,f1,c1,c2,b2,b3,c3,c4,b4]
      grind[BJ]
     .have ok:BJ (nth [] ch i).length (nth [] ch (i+1)).length (f,t)=true:=by simp[BJ];omega
      rw[ok]at h0 h1;simp(disch:=try exact ag)[ie,i1,i2,b1,f1,c1,c2,b2,b3,c3,c4,b4];have:=acL (p:=p) (lk:=lk) hi hN hl k q (a++[(f,t)]) (by grind) (by trivial) (by trivial);have h2:au [1] 0 [wkB p ch lk,nnQ] [wkB p ch lk,(1,.vars [I f,I t])]=[wkB p ch lk,nnQ]:=rfl;refine⟨rfl,?_⟩
      simp_all
theorem acM{p:LiQ}{ch:List LLQ}{lk:List (List Lk)}(hcl:lk.length+1=ch.length)(hN:ch.length<1000000)(hl:∀l∈lk,l.length<1000000)(k:KL):∀(q a:List (List Lk)),a++q=lk ->
  (Jp ch a.length q=0->k (.exit 2) [] [wkB p ch lk,nnQ])->(Jp ch a.length q≠0->∀h,k .ret [I (Jp ch a.length q)] h) ->
  lp (pL (CX Y) (.ptr 0 1 0 3) (lst lkD lk) (I lk.length)) [1] [wkB p ch lk,nnQ] [I a.length] [wkB p ch lk,nnQ] k
 | [],a,ha,h0,h1=>by
  have e:a.length=lk.length:=by rw[<-ha];simp
  refine aj ?_;simp[pL,e];exact h0 rfl
 | l::q,a,ha,h0,h1=>by
  have hll:lk.length=a.length+(q.length+1):=by rw[<-ha];simp
  have hle:=hl l (by grind);have i1:∀h:Hp,ixV h 1 (lst lkD lk) (I a.length)=some (.dptr (lk.map lkD) a.length):=fun h=>aJ lkD _ h rfl aa
  have i2:∀h:Hp,ld1 h (.dptr (lk.map lkD) a.length)=some (.d (lkD l)):=fun h=>by rw[aC lkD [] lk h aa,<-ha,bM]
  simp only[Jp]at h0 h1;refine aj ?_;simp(disch:=try exact ag)[pL,i1,i2];refine cd (FK l.length 12) ?_;by_cases g:B7 l.length 12=0
  .rw[if_neg (by simp[g])]at h0 h1;simp[g];refine lo (acL (i:=a.length) aa hN hle _ l [] rfl (fun g2=>?_) (fun g2 h=>?_))
   .rw[if_pos g2]at h0 h1;simp(disch:=try exact ag);have:=acM (p:=p) hcl hN hl k q (a++[l]) (by grind) (by grind) (by grind);have h2:au [1] 0 [wkB p ch lk,nnQ] [wkB p ch lk,nnQ]=[wkB p ch lk,nnQ]:=rfl;refine⟨rfl,?_⟩
    simp_all
   .rw[if_neg (by grind)]at h1;simp
    grind
  .rw[if_pos g]at h1;simp[g]
   grind
def dcB(p:LiQ)(ch:List LLQ)(lk:List (List Lk)):Int:=
 if pcB p≠0 then pcB p else if B7 ch.length 64≠0 then B7 ch.length 64 else if JO p ch≠0 then JO p ch else if lk.length+1=ch.length then Jp ch 0 lk else 5
theorem H3{lk:List (List Lk)}(hp:p.length<1000000000)(hc:∀c∈ch,c.length<1000000000)(hN:ch.length<1000000)(hM:lk.length<1000000)(hl:∀l∈lk,l.length<1000000):
  CP Y F.nh [.agg (wkC p ch lk)] (I (dcB p ch lk)):=by
 refine GC ?_;have f0:∀b:Nat×Bk,ld1 [wkB p ch lk,b] (.ptr 0 1 0 3)=some (lst di p):=fun _=>rfl
 have f1:∀b:Nat×Bk,ld1 [wkB p ch lk,b] (.ptr 0 1 1 3)=some (lst aA ch):=fun _=>rfl
 have f2:∀b:Nat×Bk,ld1 [wkB p ch lk,b] (.ptr 0 1 2 3)=some (lst lkD lk):=fun _=>rfl
 have bx:∀(k:kkQ)(u:PU k),rh (cQ 0 (.agg (wkC p ch lk)) [nnQ,nnQ]) k u=k (.ptr 0 1 0 3) [wkB p ch lk,nnQ]:=fun _ _=>rfl
 have hgX:∀b:Nat×Bk,fh [wkB p ch lk,b] 0 1=.vars [lst di p,lst aA ch,lst lkD lk]:=fun _=>rfl
 unfold dcB;simp[nh,bx,f0];refine cd (oc hp) ?_;by_cases h:pcB p=0
 .rw[if_neg (by simp[h])];simp[h,f1];refine cd (FK ch.length 64) ?_;by_cases g:B7 ch.length 64=0
  .rw[if_neg (by simp[g])];simp[g,f1];refine lo (acN hp hc hN _ ch [] rfl (fun g2=>?_) (fun g2=>?_))
   .rw[if_neg aa];simp(disch:=try exact ag)[f1,f2,hgX];by_cases g3:lk.length+1=ch.length
    .rw[if_pos g3];have g4:(lk.length:Int)=(ch.length:Int)-1:=aa;simp[g4,f2,hgX];rw[<-g4];refine lo (acM (p:=p) g3 hN hl _ lk [] rfl (fun g5=>?_) (fun g5 h=>?_))
     .have g5:Jp ch 0 lk=0:=g5;rw[g5];simp<;>exact cx rfl
     .simp<;>exact cx rfl
    .rw[if_neg g3];have g4:¬(lk.length:Int)=(ch.length:Int)-1:=aa;simp[g4]<;>exact cx rfl
   .rw[if_pos g2];simp<;>exact cx rfl
  .rw[if_pos g];simp[g]<;>exact cx rfl
 .rw[if_pos h];simp[h]<;>exact cx rfl
theorem Uz(a b:LiQ):CP Y F.sy [lst di a,lst di b] (.fn F.nD [] [.dptr [row a] 0,.dptr [row b] 0]):=by
 refine K8 ?_;have bl:∀(l:LiQ)(s:Nat)(h:Hp)(k:kkQ)(u:PU k),rh (cQ s (lst di l) h) k u=rh (alV s [lst di l] h) k u:=fun _ _ _ _ _=>rfl
 simp[sy,bl];exact⟨_,rfl⟩
def prX(a b:LiQ):List LvQ:=(a.zip b).map fun t=>[.int .i64 t.1,.int .i64 t.2]
theorem Vl:∀l:LiQ,lits (l.map di)=some (l.map fun z=>.int .i64 z)
 |[]=>rfl
 | t::ts=>by
  have:=Vl ts;simp only[Z2,lits,this,di]
theorem afc{a b:LiQ}(hN:a.length<=700000)(hab:a.length=b.length):sqV Y.seq (.fn F.nD [] [.dptr [row a] 0,.dptr [row b] 0])=some (prX a b):=by
 show J8 (.sl a.length (a.map di)) (.sl b.length (b.map di))=_
 have hN':a.length<4611686018427387904:=aa;have hb:b.length=a.length:=hab.symm;simp only[J8,slD,Vl,List.length_map,hb,hN',and_self,if_true];congr 1;unfold prX;rw[List.zip_map,Yy];rfl
def dP(a b:LiQ):LiQ:=(a.zip b).map fun t=>t.1+t.2
def adH(n:Nat)(o:LiQ):Hp:=[(1,.data 1 ((o++List.replicate (n-o.length) 0).map di) true false),(1,.vars [.ref 0 1 0 o.length n n]),nnQ]
theorem M7{n:Nat}(hn:n<=64)(k:Exit->Hp->Prop)(h0:Hp)(hh:h0.length=3):∀(t:List (Int×Int))(o:LiQ),o.length+t.length=n->(∀x∈t,tO x.1=true∧tO x.2=true) ->
  k .normal (adH n (o++t.map fun x=>x.1+x.2)) ->
  rg 2 (yP (CX Y) (.ptr 1 1 0 1)) [] h0 k (t.map fun x=>[.int .i64 x.1,.int .i64 x.2]) (adH n o)
 |[],o,hl,ht,hk=>by simpa[rg]using hk
 | x::t,o,hl,ht,hk=>by
  obtain⟨h1,h2⟩:=ht x af;have b1:=BD.1 h1;have b2:=BD.1 h2;have li1:∀(z:Int)(H:Hp),cO 1 [D.int IntKind.i64 0] [(0,I z)] H=some ([di z],H):=fun z H=>by simp[cO,jv,iH,toD,di]
  have hlen:(o.length:Int)+1<=n:=by simp at hl;omega
  have ap:∀q:kkQ,apV false 2 1 8 (.ref 0 1 0 o.length n n) (.d (.sl 1 [di (x.1+x.2)])) (adH n o) q=q (.ref 0 1 0 (o.length+1) n n) [(1,.data 1 ((o++[x.1+x.2]++List.replicate (n-(o.length+1)) 0).map di) true false),(1,.vars [.ref 0 1 0 o.length n n]),nnQ]:=by
   intro q;have hg:aw (adH n o) 0 1=.data 1 ((o++List.replicate (n-o.length) 0).map di) true false:=rfl;have hle:((o++List.replicate (n-o.length) 0).map di).length=n:=by simp only[List.length_cons]at hl;simp;omega
   show apC false 2 1 8 (.ref 0 1 0 o.length n n) 1 [di (x.1+x.2)] (adH n o) q=_
   unfold apC;rw[if_neg ae];simp only[hg];rw[if_pos ⟨trivial,by rw[hle],aa,by rw[hle];omega,rfl⟩,if_pos (by simp only[List.length_cons]at hl;omega)];simp only[V7,Ze,if_false];have e1:((o++List.replicate (n-o.length) 0).map di).take (0+o.length*1)=o.map di:=af
   have e2:((o++List.replicate (n-o.length) 0).map di).drop (0+(o.length+1)*1)=(List.replicate (n-(o.length+1)) 0).map di:=by
    have e:n-o.length=(n-(o.length+1))+1:=by simp only[List.length_cons]at hl;omega
    rw[e,List.replicate_succ,Xx,List.drop_append];simp
   rw[e1,e2];simp only[adH,bS,List.set_cons_zero,Xx,Z2,Xh]
  have ih:=M7 hn k h0 hh t (o++[x.1+x.2]) (by simp at hl ⊢;omega) (fun y hy=>ht y (by simp[hy])) (by simpa using hk);have hre:∀y:Hp,y.length=3->au [] 0 h0 y=y:=fun y hy=>aX 0 h0 y aa
  simp only[Z2];refine IW rfl ?_;have eL:([.int .i64 x.1,.int .i64 x.2]:LvQ).map (fun v=>V.d (jp v))=[I x.1,I x.2]:=rfl;rw[eL];have l1:ld1 (adH n o) (.ptr 1 1 0 1)=some (.ref 0 1 0 o.length n n):=rfl;simp(disch:=try exact ag)[yP,l1,li1];unfold rh;rw[ap];simp[hre,z8];simpa[adH]using ih
theorem Ug{a b:LiQ}(ha:rcB a=0)(hb:rcB b=0)(hab:a.length=b.length):CP Y F.uz [lst di a,lst di b] (I 0):=by refine NR ?_;have h1:=(w7.1 ha).1;have h2:=(w7.1 hb).1;have ra:=IX (l:=a) aa;have rb:=IX (l:=b) aa;rw[ha]at ra;rw[hb]at rb;have g:(a.length:Int)=(b.length:Int):=aa;simp[uz];refine cd ra ?_;simp;refine cd rb ?_;simp[g]
theorem YW{a b:LiQ}(hab:a.length=b.length):(dP a b).length=a.length:=by simp[dP,hab]
theorem Rm{a b:LiQ}(ha:rcB a=0)(hb:rcB b=0)(hab:a.length=b.length)(hr:rcB (dP a b)=0):CP Y F.xM [lst di a,lst di b] (.tup [lst di (dP a b),I 0]):=by
 refine Rl ?_;obtain⟨h1,h3⟩:=w7.1 ha;obtain⟨h2,h4⟩:=w7.1 hb;have bo:=Ug ha hb hab;have pa:=Uz a b;have lz:=YW hab;have rr:=aag (l:=dP a b) aa;rw[hr,if_pos rfl]at rr;have ll:bj (lst di a)=some (I a.length):=rfl
 have mk:∀(k:kkQ)(u:PU k),rh (mkS 0 8 [.int .i64 0] [nnQ,nnQ,nnQ] (I 0) (I a.length)) k u=k (.ref 0 1 0 0 a.length a.length) [(1,.data 1 ((List.replicate a.length 0).map di) true false),nnQ,nnQ]:=by
  intro k u
  have er:∀n:Nat,jv n [D.int IntKind.i64 0]=(List.replicate n 0).map di:=by
   intro n
   induction n with
   |zero=>rfl
   |succ n ih=>rw[List.replicate_succ,Z2,<-ih];rfl
  unfold rh mkS;simp only;rw[if_pos ⟨aa,aa,af,aa,aa⟩];simp only[new,List.getElem?_cons_zero,Int.toNat_natCast,er,List.length_map,Zh];rfl
 have lo_:=M7 h1 (fun ex h=>exK [(.normal,fun _ h=>
   bnd (ld1 h (.ptr 1 1 0 1)) fun v8=>
   cal (CX Y).p h (.fn F.oG [] []) [v8] fun v9 h=>
   ext v9 0 fun v10=>
   ext v9 1 fun v11=>
   out (.tup [lst di (dP a b),I 0]) (.tup [v10,v11]) h)] ex [] h) (adH a.length []) rfl (a.zip b) [] (by simp[hab]) (fun x hx=>⟨h3 _ (We hx).1,h4 _ (We hx).2⟩) (by
  have ez:(a.zip b).map (fun x=>x.1+x.2)=dP a b:=rfl;rw[List.nil_append,ez]
  have e0:adH a.length (dP a b)=[(1,.data 1 ((dP a b).map di) true false),(1,.vars [.ref 0 1 0 (dP a b).length a.length a.length]),nnQ]:=by
   unfold adH;rw[lz];simp
  rw[e0];simp;refine cdz (ds:=[lst di (dP a b)]) (h':=[(1,.data 1 ((dP a b).map di) true true),(1,.vars [.ref 0 1 0 (dP a b).length a.length a.length]),nnQ]) ?_ rr ?_
  .simp[aS,bJ,toD,aw,bS,lz,lst];rw[Z6 (by simp[lz])]
  .simp;exact aG (Ek _ _ _) rfl)
 simp[xM];refine cd bo ?_;simp[ll,mk];refine cd pa ?_;simp only[adH,List.nil_append,List.length_nil,Nat.sub_zero,Wc]at lo_;simp;exact ro (afc aa hab) lo_
def bdR(B:Int)(r:LiQ):Prop:=∀x∈r,-B<=x∧x<=B
theorem wQ{α β:Type}(f:α->β)(a:List α)(x y:α)(b:List α):((a++x::b).map f).set a.length (f y)=(a++y::b).map f:=by simp only[Xx,Z2];rw[List.set_append_right _ _ af];simp
def M9(s:Int):LiQ->LiQ->LiQ
 |a::l,b::m=>(a+s*b)::M9 s l m
 |_,_=>[]
def oH(o:LiQ):Hp:=[(1,.data 1 (o.map di) true false)]
theorem Tk{s iv:Int}(hi:(iv=0∧s=1)∨(iv=1∧s = -1)){r:LiQ}(hN:r.length<1000000)(hr:bdR 1000000000000 r)(h0:Hp)(hh:h0.length=1)(k:KL):∀(q a o1 o2:LiQ),a++q=r->o1.length=a.length->o2.length=q.length->bdR 1000000000000 o2 ->
  k (.exit 2) [] (oH (o1++M9 s o2 q)) ->
  lp (pI (CX Y) (.ref 0 1 0 r.length r.length r.length) (I iv) (lst di r) (I r.length)) [] h0 [I a.length] (oH (o1++o2)) k
 | [],a,o1,o2,ha,h1,h2,_,hk=>by
  have e:a.length=r.length:=by rw[<-ha];simp
  have e2:o2=[]:=by cases o2 with|nil=>rfl|cons _ _=>simp at h2
  subst e2;refine aj ?_;simp[pI,e]
  grind[M9]
 |x::q,a,o1,[],ha,h1,h2,_,hk=>by simp at h2
 | x::q,a,o1,y::o2,ha,h1,h2,hb,hk=>by
  have hl:r.length=a.length+(q.length+1):=by rw[<-ha];simp
  have bx:=hr x (by grind);have bY:=hb y af;have hol:(o1++y::o2).length=r.length:=by simp at h2 ⊢;omega
  have i1:∀h:Hp,ixV h 1 (lst di r) (I a.length)=some (.dptr (r.map di) a.length):=fun h=>aJ di _ h rfl aa
  have i2:∀h:Hp,ld1 h (.dptr (r.map di) a.length)=some (I x):=fun h=>by rw[aC di 0 r h aa,<-ha,bM];rfl
  have i3:ixV (oH (o1++y::o2)) 1 (.ref 0 1 0 r.length r.length r.length) (I a.length)=some (.ptr 0 1 a.length r.length):=by
   simp only[ixV,oH,aw];simp only[List.getElem?_cons_zero,if_true,List.length_map,hol];rw[if_pos ⟨trivial,aa,aa⟩];simp
  have i4:ld1 (oH (o1++y::o2)) (.ptr 0 1 a.length r.length)=some (I y):=by
   simp only[ld1,oH,aw];simp only[List.getElem?_cons_zero,if_true,List.length_map,hol];rw[<-h1,Xx,List.getElem?_append_right af];simp
  have i5:∀z:Int,st (oH (o1++y::o2)) 1 (.ptr 0 1 a.length r.length) (I z)=some (oH (o1++z::o2)):=fun z=>by
   rw[KH];have e:fh (oH (o1++y::o2)) 0 1=.data 1 ((o1++y::o2).map di) true false:=rfl;rw[e,uv _ _ _ _ _ _ _ _ _ (by rw[List.length_map,hol]) (by grind)];have e2:=wQ di o1 y z o2;rw[h1]at e2
   show some (bS _ 0 1 (.data 1 (((o1++y::o2).map di).set a.length (di z)) true false))=_
   rw[e2];rfl
  have hs : -1000000000000<=s*x∧s*x<=1000000000000:=by
   rcases hi with⟨_,rfl⟩|⟨_,rfl⟩<;>omega
  have ih:=Tk hi hN hr h0 hh k q (a++[x]) (o1++[y+s*x]) o2 (by grind) (by grind) (by grind) (fun z hz=>hb z (by grind)) (by grind[M9]);have hre:au [] 0 h0 (oH (o1++(y+s*x)::o2))=oH (o1++(y+s*x)::o2):=aX 0 h0 _ (by simp[oH,hh]);have e1:o1++[y+s*x]++o2=o1++(y+s*x)::o2:=af;have e2:((a++[x]).length:Int)=(a.length:Int)+1:=af;rw[e1,e2]at ih
  have g:(a.length:Int)<r.length:=aa;refine aj ?_;rcases hi with⟨rfl,rfl⟩|⟨rfl,rfl⟩
  .rw[Int.one_mul]at ih hre;simp[pI,i1,i2,i3,g];refine aT ?_;simp(disch:=try exact ag)[i3,i4,i5,hre];exact ih
  .have u : -1*x = -x:=aa;rw[u]at ih hre;simp[pI,i1,i2,i3,g];refine aT ?_;simp(disch:=try exact ag)[i3,i4,i5,hre];exact ih
def jA(a b:LiQ):LiQ:=(a.zip b).map fun t=>t.1-t.2
theorem KF{a b:LiQ}(h:b.length=a.length):(jA a b).length=a.length:=by simp[jA,h]
theorem Il:∀{r:LiQ},M9 1 (List.replicate r.length 0) r=r
 |[]=>rfl
 |x::r=>by simp[List.replicate_succ,M9,Il]
theorem M8:∀{a b:LiQ},M9 (-1) a b=jA a b
 |[],_=>by rfl
 |a::l,[]=>by rfl
 | a::l,b::m=>by
  have:=M8 (a:=l) (b:=m)
  grind[jA,M9,List.zip_cons_cons]
theorem ZO{x:LiQ}(hN:x.length<1000000)(hl:y.length=x.length)(hx:bdR 1000000000000 x)(hy:bdR 1000000000000 y):CP Y F.sF [mat [x,y]] (lst di (jA x y)):=by
 refine Mr ?_;have i1:∀h:Hp,ixV h 1 (mat [x,y]) (I 0)=some (.dptr [row x,row y] 0):=fun h=>aJ row [x,y] h rfl af
 have i2:∀h:Hp,ld1 h (.dptr [row x,row y] 0)=some (lst di x):=fun h=>rfl
 have i3:∀h:Hp,ixV h 1 (mat [x,y]) (I 1)=some (.dptr [row x,row y] 1):=fun h=>aJ row [x,y] h rfl af
 have i4:∀h:Hp,ld1 h (.dptr [row x,row y] 1)=some (lst di y):=fun h=>rfl
 have l0:bj (mat [x,y])=some (I 2):=rfl;have e0:([(1,Bk.data 1 (List.replicate x.length (D.int IntKind.i64 0)) true false)]:Hp)=oH (List.replicate x.length 0):=by simp[oH,di]
 have z0:bdR 1000000000000 (List.replicate x.length 0):=fun z hz=>by grind
 simp(disch:=try exact ag)[sF,i1,i2,l0];rw[e0];refine lo (aj ?_);simp[rQ,i1,i2];refine lo (Tk (s:=1) (iv:=0) (.inl ⟨rfl,rfl⟩) hN hx _ rfl _ x [] [] (List.replicate x.length 0) rfl rfl af z0 ?_);rw[List.nil_append,Il];have hre:∀z,au [] 0 (oH (List.replicate x.length 0)) (oH z)=oH z:=fun z=>aX 0 _ _ rfl
 simp[hre];refine aj ?_;simp[rQ,i3,i4];have s2:=Tk (s:=-1) (iv:=1) (.inr ⟨rfl,rfl⟩) (r:=y) aa hy;have eR:V.ref 0 1 0 y.length y.length y.length=V.ref 0 1 0 x.length x.length x.length:=by rw[hl]
 rw[eR]at s2;refine lo (s2 (oH x) rfl _ y [] [] x rfl rfl hl.symm hx ?_);rw[List.nil_append,M8];simp[hre];refine aj ?_;simp[rQ];have:=KF hl;refine⟨[(1,.data 1 ((jA x y).map di) true true)],?_⟩
 grind[bJ,toD,aw,bS,lst,oH]
structure wy(n:Nat)(B:Int)(ch:List LLQ)(lk:List (List Lk)):Prop where
 len:lk.length+1=ch.length
 few:ch.length<=64
 rows:∀c∈ch,∀r∈c,r.length=n∧bdR B r
 cs:∀c∈ch,c.length<=12
 ls:∀l∈lk,l.length<=12
 ok:∀i<lk.length,(nth [] lk i).all (BJ (nth [] ch i).length (nth [] ch (i+1)).length)=true
theorem LV{a:Nat}{x:Lk}:BJ a b x=true↔(0<=x.1∧x.1<a)∧0<=x.2∧x.2<b:=by grind[BJ]
def pC(ch:List LLQ)(i:Nat)(x:Lk):LiQ:=nth [] (nth [] ch i) x.1.toNat
def pB(ch:List LLQ)(i:Nat)(x:Lk):LiQ:=nth [] (nth [] ch (i+1)) x.2.toNat
theorem wy.notes{B:Int}{lk:List (List Lk)}(w:wy n B ch lk)(hi:i<lk.length)(hj:j<(nth [] lk i).length):
  let x:=nth (0,0) (nth [] lk i) j
  (0<=x.1∧x.1<(nth [] ch i).length)∧(0<=x.2∧x.2<(nth [] ch (i+1)).length)∧((pC ch i x).length=n∧bdR B (pC ch i x))∧(pB ch i x).length=n∧bdR B (pB ch i x):=by intro x;have h:=LV.1 (Zv.1 (w.ok i hi) x (aQ hj));have hl:=w.len;refine⟨h.1,h.2,w.rows _ (aQ aa) _ (aQ aa),w.rows _ (aQ aa) _ (aQ aa)⟩
def xm(ch:List LLQ)(lk:List (List Lk))(i j:Nat):LiQ:=
 jA (pC ch i (nth (0,0) (nth [] lk i) j)) (pB ch i (nth (0,0) (nth [] lk i) j))
theorem aaU{B:Int}{lk:List (List Lk)}(w:wy n B ch lk)(hB:B<=1000000000000)(hn:n<1000000)(hi:i<lk.length)(hj:j<(nth [] lk i).length):
  CP Y F.qw [.agg (wkC p ch lk),I i,I j] (lst di (xm ch lk i j)):=by
 refine JF ?_;obtain⟨⟨a0,a1⟩,⟨b0,b1⟩,⟨n1,n2⟩,n3,n4⟩:=w.notes hi hj;have hl:=w.len;have hf:=w.few;unfold xm;obtain⟨f,t,hx⟩:∃f t,nth (0,0) (nth [] lk i) j=(f,t):=⟨_,_,rfl⟩;rw[hx]at a0 a1 b0 b1 n1 n2 n3 n4 ⊢;simp only at a0 a1 b0 b1;have bx:∀(k:kkQ)(u:PU k),rh (cQ 0 (.agg (wkC p ch lk)) [nnQ,nnQ]) k u=k (.ptr 0 1 0 3) [wkB p ch lk,nnQ]:=fun _ _=>rfl
 have hgX:∀b:Nat×Bk,fh [wkB p ch lk,b] 0 1=.vars [lst di p,lst aA ch,lst lkD lk]:=fun _=>rfl
 have k1:∀h:Hp,ixV h 1 (lst lkD lk) (I i)=some (.dptr (lk.map lkD) i):=fun h=>aJ lkD _ h rfl hi
 have k2:∀h:Hp,ld1 h (.dptr (lk.map lkD) i)=some (.d (lkD (nth [] lk i))):=fun h=>aC lkD [] lk h hi
 have k3:∀h:Hp,ixV h 2 (.d (lkD (nth [] lk i))) (I j)=some (.dptr ((nth [] lk i).flatMap lkC) (j*2)):=fun h=>by
  have:=ou lkC tQ (nth [] lk i) h (k:=.i64) (i:=(j:Int)) aa aa;trivial
 have k4:∀h:Hp,ldA h 2 (.dptr ((nth [] lk i).flatMap lkC) (j*2))=some (.agg [I f,I t]):=fun h=>by
  have:=ot lkC tQ ((0,0):Lk) (nth [] lk i) h (j:=j) hj;rw[this,hx];rfl
 have c1:∀(h:Hp),ixV h 1 (lst aA ch) (I i)=some (.dptr (ch.map aA) i):=fun h=>aJ aA _ h rfl aa
 have c2:∀(h:Hp),ld1 h (.dptr (ch.map aA) i)=some (mat (nth [] ch i)):=fun h=>aC aA [] ch h aa
 have c3:∀(h:Hp),ixV h 1 (lst aA ch) (I ((i:Int)+1))=some (.dptr (ch.map aA) (i+1)):=fun h=>aJ aA _ h aa aa
 have c4:∀(h:Hp),ld1 h (.dptr (ch.map aA) (i+1))=some (mat (nth [] ch (i+1))):=fun h=>aC aA [] ch h aa
 have d1:∀(h:Hp),ixV h 1 (mat (nth [] ch i)) (I f)=some (.dptr ((nth [] ch i).map row) f.toNat):=fun h=>kv row _ h a0 aa
 have d2:∀(h:Hp),ld1 h (.dptr ((nth [] ch i).map row) f.toNat)=some (lst di (pC ch i (f,t))):=fun h=>aC row [] _ h aa
 have d3:∀(h:Hp),ixV h 1 (mat (nth [] ch (i+1))) (I t)=some (.dptr ((nth [] ch (i+1)).map row) t.toNat):=fun h=>kv row _ h b0 aa
 have d4:∀(h:Hp),ld1 h (.dptr ((nth [] ch (i+1)).map row) t.toNat)=some (lst di (pB ch i (f,t))):=fun h=>aC row [] _ h aa
 have sm:=ZO (x:=pC ch i (f,t)) (y:=pB ch i (f,t)) aa aa (fun z hz=>by have:=n2 z hz;omega) (fun z hz=>by have:=n4 z hz;omega);have li:∀H,cO 2 [nPQ] [(0,lst di (pC ch i (f,t))),(1,lst di (pB ch i (f,t)))] H=some ([row (pC ch i (f,t)),row (pB ch i (f,t))],H):=fun H=>Vt ..
 generalize pC ch i (f,t)=x at *;generalize pB ch i (f,t)=y at *;simp(disch:=try exact ag)[qw,bx,hgX,k1,k2,k3,k4,c1,c2,c3,c4,d1,d2,d3,d4,li];refine cd (args:=[mat [x,y]]) sm ?_;exact aav ..
@[simp]theorem ahE(h:Hp)(p:LiQ)(ch:List LLQ)(lk:List (List Lk)):aS h (wkC p ch lk)=some (wkC p ch lk,h):=rfl
theorem MM{h:Hp}(hu:(h.all fun x=>bW h.length x.2)=true){l:LiQ}(hl:0<l.length)(hb:l.length<1000000000000):CI Y F.cG [lst di l] h (.new 1 (l.map di) false l.length l.length) h:=by
 refine sT ?_;simp(disch:=try exact ag)[cG]
 have hli:cO 0 [D.int IntKind.i64 0] [] (h++[(0,Bk.none),(0,Bk.none)])=some ([],h++[(0,Bk.none),(0,Bk.none)]):=by
  simp[cO,jv,iH]
 rw[hli];simp;refine x8 (z:=[]) ae hl af aa ?_;simp;refine⟨af,?_,.inr (.inr (.inl ⟨h.length+1,1,l.length,l.length,1,l.map di,false,af,aa,by simp[aw],rfl⟩))⟩;simp only[Yp,hu,Zg]
 try simp[bW]
def rtH(a b c e:Nat×Bk)(o:LiQ):Hp:=[a,b,c,(1,.data 1 (o.map di) false false),e]
theorem acg{r:LiQ}(hN:r.length<1000000)(hr:bdR 1000000000000 r)(a b c e:Nat×Bk)(h0:Hp)(hh:h0.length=5)(k:KL):∀(q p o1 o2:LiQ),p++q=r->o1.length=p.length->o2.length=q.length->bdR 1000000000000 o2 ->
  k (.exit 2) [] (rtH a b c e (o1++dP o2 q)) ->
  lp (pJ (CX Y) (.ref 3 1 0 r.length r.length r.length) (lst di r) (I r.length)) [] h0 [I p.length] (rtH a b c e (o1++o2)) k
 | [],p,o1,o2,ha,h1,h2,_,hk=>by
  have e:p.length=r.length:=by rw[<-ha];simp
  have e2:o2=[]:=by cases o2 with|nil=>rfl|cons _ _=>simp at h2
  subst e2;refine aj ?_;simp[pJ,e]
  simp_all[dP]
 |x::q,p,o1,[],ha,h1,h2,_,hk=>by simp at h2
 | x::q,p,o1,y::o2,ha,h1,h2,hb,hk=>by
  have hl:r.length=p.length+(q.length+1):=by rw[<-ha];simp
  have bx:=hr x (by grind);have bY:=hb y af;have hol:(o1++y::o2).length=r.length:=by simp at h2 ⊢;omega
  have i1:∀h:Hp,ixV h 1 (lst di r) (I p.length)=some (.dptr (r.map di) p.length):=fun h=>aJ di _ h rfl aa
  have i2:∀h:Hp,ld1 h (.dptr (r.map di) p.length)=some (I x):=fun h=>by rw[aC di 0 r h aa,<-ha,bM];rfl
  have i3:ixV (rtH a b c e (o1++y::o2)) 1 (.ref 3 1 0 r.length r.length r.length) (I p.length)=some (.ptr 3 1 p.length r.length):=by
   simp only[ixV,rtH,aw];simp only[List.getElem?_cons_succ,List.getElem?_cons_zero,if_true,List.length_map,hol];rw[if_pos ⟨trivial,aa,aa⟩];simp
  have i4:ld1 (rtH a b c e (o1++y::o2)) (.ptr 3 1 p.length r.length)=some (I y):=by
   simp only[ld1,rtH,aw];simp only[List.getElem?_cons_succ,List.getElem?_cons_zero,if_true,List.length_map,hol];rw[<-h1,Xx,List.getElem?_append_right af];simp
  have i5:∀z:Int,st (rtH a b c e (o1++y::o2)) 1 (.ptr 3 1 p.length r.length) (I z)=some (rtH a b c e (o1++z::o2)):=fun z=>by
   rw[KH];have e1:fh (rtH a b c e (o1++y::o2)) 3 1=.data 1 ((o1++y::o2).map di) false false:=rfl;rw[e1,uv _ _ _ _ _ _ _ _ _ (by rw[List.length_map,hol]) (by grind)];have e2:=wQ di o1 y z o2;rw[h1]at e2
   show some (bS _ 3 1 (.data 1 (((o1++y::o2).map di).set p.length (di z)) false false))=_
   rw[e2];rfl
  have ih:=acg hN hr a b c e h0 hh k q (p++[x]) (o1++[y+x]) o2 (by grind) (by grind) (by grind) (fun z hz=>hb z (by grind)) (by simp_all[dP]);have hre:au [] 0 h0 (rtH a b c e (o1++(y+x)::o2))=rtH a b c e (o1++(y+x)::o2):=aX 0 h0 _ (by simp[rtH,hh]);have e1:o1++[y+x]++o2=o1++(y+x)::o2:=af;have e2:((p++[x]).length:Int)=(p.length:Int)+1:=af;rw[e1,e2]at ih
  have g:(p.length:Int)<r.length:=aa;refine aj ?_;simp(disch:=try exact ag)[pJ,i1,i2,i3,i4,i5,g,hre];exact ih
def rtV(R:LLQ):V:=if R.length=1 then .ref 2 1 0 1 1 1 else .ref 4 1 0 R.length R.length R.length
def rtE(R:LLQ):Nat×Bk:=if R.length=1 then nnQ else(1,.data 1 (R.map row) false false)
def rtA(p:LiQ)(ch:List LLQ)(lk:List (List Lk))(z:LiQ)(R:LLQ)(s3:Nat×Bk):Hp:=[wkB p ch lk,(1,.data 1 (z.map di) true true),(1,.data 1 [row z] true false),s3,rtE R]
theorem aae{lk:List (List Lk)}{z:LiQ}{R0:LLQ}(s3:Nat×Bk)(hz:R0=[]->r=z)(hz2:∀x l,R0++[r]=x::l->True):∃w,ixV (rtA p ch lk z (R0++[r]) s3) 1 (rtV (R0++[r])) (I R0.length)=some w∧ld1 (rtA p ch lk z (R0++[r]) s3) w=some (lst di r):=by
 by_cases h:R0=[]
 .subst h;rw[hz rfl];exact⟨.ptr 2 1 0 1,rfl,rfl⟩
 .have hp:0<R0.length:=Xj.2 h;have h1:¬(R0++[r]).length=1:=by simp;exact h
  refine⟨.ptr 4 1 R0.length (R0++[r]).length,?_,?_⟩
  .grind[rtV,rtA,rtE,ixV,aw]
  .simp only[rtA,rtE,if_neg h1,ld1,aw,List.getElem?_cons_succ,List.getElem?_cons_zero,if_true,List.length_map];simp;rfl
theorem adI{lk:List (List Lk)}{z:LiQ}{R:LLQ}(s3:Nat×Bk)(h0:0<R.length)(hz:R.length=1->R=[z])(hb:R.length<1000000)(q:kkQ):
  apV false 4 1 24 (rtV R) (.d (.sl 1 [row r'])) (rtA p ch lk z R s3) q=q (rtV (R++[r'])) (rtA p ch lk z (R++[r']) s3):=by
 by_cases h:R.length=1
 .rw[hz h];rfl
 .have h2:¬(R++[r']).length=1:=by simp;intro e;rw[e]at h0;simp at h0
  have hg:aw (rtA p ch lk z R s3) 4 1=.data 1 (R.map row) false false:=by simp[aw,rtA,rtE,h]
  show apC false 4 1 24 (rtV R) 1 [row r'] (rtA p ch lk z R s3) q=_
  simp only[rtV,if_neg h,if_neg h2];unfold apC;rw[if_neg ae];simp only[hg];rw[if_pos ⟨trivial,af,Z7 _,af,rfl⟩,if_neg aa,if_pos aa];simp only[Ze,if_false,V7];rw[if_pos ⟨af,af⟩];have hne:¬R=[]:=by rintro rfl;simp at h0
  grind[rtA,rtE,bS,Z6]
def vg(ch:List LLQ)(lk:List (List Lk)):Nat->LiQ->List (List Lk)->LLQ
 |_,r,[]=>[r]
 |i,r,_::q=>r::vg ch lk (i+1) (dP r (xm ch lk i 0)) q
def sZ(n:Nat)(ch:List LLQ)(lk:List (List Lk)):LLQ:=vg ch lk 0 (List.replicate n 0) lk
theorem Hn(ch:List LLQ)(lk:List (List Lk))(i:Nat)(r:LiQ)(q:List (List Lk)):∃t,vg ch lk i r q=r::t:=by
 cases q with
 |nil=>exact⟨[],rfl⟩
 |cons l q=>exact⟨_,rfl⟩
theorem zI{B C:Int}:∀{a b:LiQ},bdR B a->bdR C b->bdR (B+C) (jA a b)
 |[],b,_,_=>by simp[jA,bdR]
 |x::a,[],_,_=>by simp[jA,bdR]
 | x::a,y::b,ha,hb=>by
  intro z hz;simp only[jA,List.zip_cons_cons,Z2,Zo]at hz;have h1:=ha x af;have h2:=hb y af;rcases hz with rfl|hz
  .omega
  .exact zI (fun w hw=>ha w (by grind)) (fun w hw=>hb w (by grind)) z hz
theorem vK{B C:Int}:∀{a b:LiQ},bdR B a->bdR C b->bdR (B+C) (dP a b)
 |[],b,_,_=>by simp[dP,bdR]
 |x::a,[],_,_=>by simp[dP,bdR]
 | x::a,y::b,ha,hb=>by
  intro z hz;simp only[dP,List.zip_cons_cons,Z2,Zo]at hz;have h1:=ha x af;have h2:=hb y af;rcases hz with rfl|hz
  .omega
  .exact vK (fun w hw=>ha w (by grind)) (fun w hw=>hb w (by grind)) z hz
theorem wy.lead{B:Int}{lk:List (List Lk)}(w:wy n B ch lk)(hi:i<lk.length)(hj:j<(nth [] lk i).length):(xm ch lk i j).length=n∧bdR (B+B) (xm ch lk i j):=by obtain⟨_,_,⟨n1,n2⟩,n3,n4⟩:=w.notes hi hj;exact⟨by unfold xm;rw[KF aa];exact n1,zI n2 n4⟩
theorem ach{p:LiQ}{n:Nat}{B:Int}{ch:List LLQ}{lk:List (List Lk)}(w:wy n B ch lk)(h0:0<n)(hn:n<1000000)(hB0:0<=B)(hB:B<=1000)(hne:∀l∈lk,0<l.length){z:LiQ}(k:KL):∀(q a:List (List Lk))(R0:LLQ)(r:LiQ),a++q=lk->R0.length=a.length->r.length=n->bdR (2000*a.length) r->(R0=[]->r=z)->(R0.length=0->R0=[])->(∀x l,R0=x::l->x=z) ->
  k (.exit 0) [rtV (R0++vg ch lk a.length r q)] (rtA p ch lk z (R0++vg ch lk a.length r q) nnQ) ->
  lp (pK (CX Y) (.ptr 0 1 0 3) (I lk.length)) [3] (rtA p ch lk z [z] nnQ) [rtV (R0++[r]),I a.length] (rtA p ch lk z (R0++[r]) nnQ) k
 | [],a,R0,r,ha,hR,_,_,_,_,_,hk=>by
  have e:a.length=lk.length:=by rw[<-ha];simp
  refine aj ?_;simp[pK,e];exact hk
 | l::q,a,R0,r,ha,hR,hr,hb,hz,_,hz2,hk=>by
  have hll:lk.length=a.length+(q.length+1):=by rw[<-ha];simp
  have hf:=w.few;have hlen:=w.len;have hal:a.length<lk.length:=aa;have hlj:0<(nth [] lk a.length).length:=by rw[<-ha,bM];exact hne l (by grind)
  obtain⟨m1,m2⟩:=w.lead hal hlj;have ld:=aaU (p:=p) w aa hn hal hlj;generalize hL:xm ch lk a.length 0=L at *;obtain⟨v,j1,j2⟩:=aae (p:=p) (ch:=ch) (lk:=lk) (z:=z) (r:=r) (R0:=R0) nnQ hz (fun _ _ _=>trivial);rw[hR]at j1;have cl:=MM (h:=rtA p ch lk z (R0++[r]) nnQ) (by simp only[rtA,rtE];split<;>rfl) (l:=r) aa aa
  have g:(a.length:Int)<lk.length:=aa;refine aj ?_;simp[pK,g,j1,j2];refine jC (fe (e:=0) (b:=.none) cl rfl ?_);have eH:(rtA p ch lk z (R0++[r]) nnQ).set 3 (0+1,.data 1 (r.map di) false false)=rtH (wkB p ch lk) (1,.data 1 (z.map di) true true) (1,.data 1 [row z] true false) (rtE (R0++[r])) r:=rfl;rw[eH]
  have l5:∀b c d o,ldA (rtH (wkB p ch lk) b c d o) 3 (.ptr 0 1 0 3)=some (.agg (wkC p ch lk)):=fun _ _ _ _=>rfl
  simp[l5];refine cd ld ?_;have hLr:L.length=r.length:=aa;have lL:bj (lst di L)=some (I L.length):=rfl;have eR:V.ref 3 1 0 r.length r.length (r.map di).length=V.ref 3 1 0 L.length L.length L.length:=by rw[List.length_map,hLr]
  simp only[eR];simp;have bL:bdR 1000000000000 L:=fun x hx=>by have:=m2 x hx;omega
  have bR:bdR 1000000000000 r:=fun x hx=>by have:=hb x hx;omega
  refine lo (acg aa bL _ _ _ _ _ rfl _ L [] [] r rfl rfl hLr.symm bR ?_);rw[List.nil_append];have ao:(dP r L).length=L.length:=by simp[dP,hLr]
  have li:cO 1 [nPQ] [(0,V.ref 3 1 0 L.length L.length L.length)] (rtH (wkB p ch lk) (1,.data 1 (z.map di) true true) (1,.data 1 [row z] true false) (rtE (R0++[r])) (dP r L))=some ([row (dP r L)],rtA p ch lk z (R0++[r]) (1,.data 1 ((dP r L).map di) false true)):=by
   simp[cO,jv,iH,toD,rtH,aw,bS,ao,row,rtA,Z6]
  simp[li]
  have ap:=adI (p:=p) (ch:=ch) (lk:=lk) (z:=z) (r':=dP r L) (R:=R0++[r]) (1,.data 1 ((dP r L).map di) false true) af (fun e=>by
   have:R0=[]:=by simpa using e
   grind) (by grind)
  unfold rh;rw[ap]
  have cl1:∀x:Int,clean [3] [rtV (R0++[r]++[dP r L]),I x] (rtA p ch lk z (R0++[r]++[dP r L]) (1,.data 1 ((dP r L).map di) false true))=true:=fun x=>by
   simp only[rtV,rtA,rtE];split<;>rfl
  have re1:∀s3,au [3] 0 (rtA p ch lk z [z] nnQ) (rtA p ch lk z (R0++[r]++[dP r L]) s3)=rtA p ch lk z (R0++[r]++[dP r L]) nnQ:=fun _=>rfl
  have g2:biI .add (I a.length) (.d (.int .i64 1))=some (I ((a++[l]).length:Int)):=by
   have:=FW (a:=(a.length:Int)) (b:=1) aa;rw[show(I 1:V)=.d (.int .i64 1)from rfl]at this;rw[this];simp
  show bnd _ _
  rw[g2];refine⟨cl1 _,?_⟩;rw[re1];have e1:vg ch lk a.length r (l::q)=r::vg ch lk (a.length+1) (dP r L) q:=by simp only[vg,hL]
  rw[e1]at hk
  have bA:bdR (2000*(a++[l]).length) (dP r L):=fun x hx=>by
   have:=vK hb m2 x hx
   grind
  have ih:=ach w h0 hn hB0 hB hne (z:=z) k q (a++[l]) (R0++[r]) (dP r L) (by grind) (by grind) aa bA (fun e=>by grind) (fun e=>by grind) (fun x m e=>by
   cases R0 with
   |nil=>grind
   |cons u v=>grind) (by simpa using hk)
  exact ih
theorem T6{B:Int}{lk:List (List Lk)}(w:wy p.length B ch lk)(h0:0<p.length)(hn:p.length<1000000)(hB0:0<=B)(hB:B<=1000)(hne:∀l∈lk,0<l.length):
  CP Y F.pf [.agg (wkC p ch lk)] (mat (sZ p.length ch lk)):=by
 refine Gz ?_;have bx:∀(k:kkQ)(u:PU k),rh (cQ 0 (.agg (wkC p ch lk)) [nnQ,nnQ,nnQ,nnQ,nnQ]) k u=k (.ptr 0 1 0 3) [wkB p ch lk,nnQ,nnQ,nnQ,nnQ]:=fun _ _=>rfl
 have f0:∀a b c d:Nat×Bk,ld1 [wkB p ch lk,a,b,c,d] (.ptr 0 1 0 3)=some (lst di p):=fun _ _ _ _=>rfl
 have f2:∀a b c d:Nat×Bk,ld1 [wkB p ch lk,a,b,c,d] (.ptr 0 1 2 3)=some (lst lkD lk):=fun _ _ _ _=>rfl
 simp(disch:=try exact ag)[pf,bx,f0];obtain⟨z,hz⟩:∃z,z=List.replicate p.length (0:Int):=⟨_,rfl⟩;have zl:z.length=p.length:=by rw[hz];simp
 have ez:List.replicate p.length (D.int IntKind.i64 0)=z.map di:=by rw[hz];simp[di]
 have li:cO 1 [nPQ] [(0,V.ref 1 1 0 p.length p.length p.length)] [wkB p ch lk,(1,Bk.data 1 (z.map di) true false),(0,Bk.none),(0,Bk.none),(0,Bk.none)]=some ([row z],[wkB p ch lk,(1,Bk.data 1 (z.map di) true true),(0,Bk.none),(0,Bk.none),(0,Bk.none)]):=by
  simp[cO,jv,iH,toD,aw,bS,row,zl,Z6]
 rw[ez,li];have f2':ld1 [wkB p ch lk,(1,Bk.data 1 (z.map di) true true),(1,Bk.data 1 [row z] true false),(0,Bk.none),(0,Bk.none)] (.ptr 0 1 2 3)=some (lst lkD lk):=rfl;simp[f2'];have eH:([wkB p ch lk,(1,Bk.data 1 (z.map di) true true),(1,Bk.data 1 [row z] true false),(0,Bk.none),(0,Bk.none)]:Hp)=rtA p ch lk z [z] nnQ:=rfl;rw[eH]
 have z0:bdR (2000*((([]:List (List Lk)).length:Nat):Int)) z:=fun x hx=>by grind
 refine lo (ach w h0 hn hB0 hB hne (z:=z) _ lk [] [] z rfl rfl zl z0 (fun _=>rfl) (fun _=>rfl) (fun _ _ e=>by cases e) ?_);rw[List.nil_append];have er:vg ch lk ([]:List (List Lk)).length z lk=sZ p.length ch lk:=by rw[hz];rfl
 rw[er];obtain⟨t,ht⟩:=Hn ch lk 0 (List.replicate p.length (0:Int)) lk;have hR:sZ p.length ch lk=z::t:=by rw[hz];exact ht
 rw[hR];simp;cases t with
 |nil=>exact⟨_,rfl⟩
 | cons y t=>
  refine⟨[wkB p ch lk,(1,Bk.data 1 (z.map di) true true),(1,Bk.data 1 [row z] true false),(0,Bk.none),(1,.data 1 ((z::y::t).map row) false true)],?_⟩;have h1:¬(z::y::t).length=1:=af;simp[rtV,rtA,rtE,bJ,toD,aw,lst,Z6]
theorem ael{m:LLQ}(hp:p.length<1000000000)(hm:m.length<1000000000):CP Y F.sG [lst di p,mat m] (I (mzB p m)):=by refine Ms ?_;simp[sG];refine cd (tP hp hm) ?_;simp
theorem ED(ch:List LLQ)(lk:List (List Lk)):∀(q:List (List Lk))(i:Nat)(r:LiQ),(vg ch lk i r q).length=q.length+1
 |[],_,_=>rfl
 |l::q,i,r=>by simp[vg,ED ch lk q]
theorem ZA{B:Int}{lk:List (List Lk)}(w:wy p.length B ch lk)(h0:0<p.length)(hn:p.length<1000000)(hB0:0<=B)(hB:B<=1000)(hne:∀l∈lk,0<l.length)(hd:dcB p ch lk=0)(hf:mzB p (sZ p.length ch lk)=0):
  CP Y F.lU [.agg (wkC p ch lk)] (.tup [mat (sZ p.length ch lk),I 0]):=by
 refine GB ?_;have hfew:=w.few;have hlen:=w.len;have dc:=H3 (p:=p) (ch:=ch) (lk:=lk) aa (fun c hc=>by grind[wy.cs]) aa aa (fun l hl=>by grind[wy.ls]);rw[hd]at dc;have rt:=T6 w h0 hn hB0 hB hne;have rl:(sZ p.length ch lk).length=lk.length+1:=ED ..;have ft:=ael (p:=p) (m:=sZ p.length ch lk) aa aa;rw[hf]at ft
 have bx:∀(k:kkQ)(u:PU k),rh (cQ 0 (.agg (wkC p ch lk)) [nnQ]) k u=k (.ptr 0 1 0 3) [wkB p ch lk]:=fun _ _=>rfl
 have l5:ldA [wkB p ch lk] 3 (.ptr 0 1 0 3)=some (.agg (wkC p ch lk)):=rfl;have f0:ld1 [wkB p ch lk] (.ptr 0 1 0 3)=some (lst di p):=rfl;simp[lU,bx,l5];refine cd dc ?_;simp[l5];refine cd rt ?_;simp[f0];refine cd ft ?_;simp;simp[aG]
theorem IR(hb:0<b){a:Int}(h:rp b x a):x=gU a b:=by
 obtain⟨m,hm⟩:=IS h;have p:=h.1.1
 have m0:0<m:=by
  rcases Zd m with e|e
  .grind
  .exact e
 have ha:a=x.1*m:=by
  have h2:=h.2;rw[hm,Int.natCast_mul,<-Int.mul_assoc,Yz]at h2;exact(Int.eq_of_mul_eq_mul_right aa h2).symm
 have hg:Nat.gcd a.natAbs b=m:=by
  rw[ha,hm,Y2,Int.natAbs_natCast,Nat.gcd_mul_right,h.1.2,Xr]
 unfold gU;rw[hg,ha,hm,Int.mul_ediv_cancel _ aa,Nat.mul_div_cancel _ m0]
def szI(b:Nat)(r:LiQ):List Q:=r.map fun a=>gU a b
theorem ci(b:Nat)(r:LiQ):(szI b r).length=r.length:=by simp[szI]
theorem oi{b:Nat}(hb:0<b):∀r:LiQ,rpl b (szI b r) r
 |[]=>trivial
 |a::r=>⟨Br hb rfl,oi hb r⟩
theorem xK{b:Nat}(hb:0<b):∀{s:List Q}{r:LiQ},rpl b s r->s=szI b r
 |[],[],_=>rfl
 | x::s,a::r,h=>by
  show x::s=gU a b::szI b r
  rw[<-IR hb h.1,<-xK hb h.2]
 |[],_::_,h=>h.elim
 |_::_,[],h=>h.elim
def bdN(B:Nat)(r:LiQ):Prop:=∀a∈r,a.natAbs<=B
theorem qd{B:Nat}(hb:0<b)(h1:b<1000000000)(h:bdN B r)(hB:B<1000000000000000000):okS (szI b r):=
 YI hb (NO (oi hb r) h) aa aa
theorem sL(z:Int):∀{r:LiQ}{n:Nat},r.length=n->dI z (List.replicate n 0) r=r.map (z * ·)
 |[],n,h=>by subst h;rfl
 |a::r,0,h=>by simp at h
 | a::r,n+1,h=>by
  simp only[List.replicate_succ,dI,Z2,sL z (r:=r) (n:=n) (by grind),Ye]
theorem Jk(r:LiQ):r.map ((1:Int) * ·)=r:=af
theorem lE{B C:Nat}:∀{r t:LiQ},bdN B r->bdN C t->bdN (B+C) (dI 1 r t)
 |[],t,_,_=>by intro a h;trivial
 |x::r,[],_,_=>by intro a h;trivial
 | x::r,y::t,hr,ht=>by
  have h1:=hr x af;have h2:=ht y af;intro a h;simp only[dI,Zo]at h;rcases h with rfl|h
  .omega
  .exact lE (fun u hu=>hr u (by grind)) (fun u hu=>ht u (by grind)) a h
theorem K5(hp:pcS p){B C:Nat}(hb:0<b)(hb1:b<1000000000)(lr:r.length=p.length)(lt:t.length=p.length)(hr:bdN B r)(ht:bdN C t)(hB:B<100000000000000000)(hC:C<100000000000000000):
  CP Y F.qG [lst di p,szV (szI b r),szV (szI b t)] (.tup [szV (szI b (dI 1 r t)),I 0]):=by
 obtain⟨hi,h0⟩:=eh hp;have hN:=hi.2.1
 have e:qX p.length [szI b r,szI b t] [(1,1),(1,1)]=szI b (dI 1 r t):=by
  have z:=xJ b p.length;have s1:=uy (b:=b) 1 (o:=List.replicate p.length (0,1)) (s:=szI b r) (by rw[Zh,ci,lr]) z (oi hb r);rw[sL 1 lr,Jk]at s1;have s2:=uy (b:=b) 1 (s:=szI b t) (by rw[tD _ _ _ (by rw[Zh,ci,lr]),ci,ci,lr,lt]) s1 (oi hb t);exact xK hb s2
 have:=aac (s:=szI b r) (t:=szI b t) hp.1 aa (by rw[ci,lr]) (qd hb hb1 hr aa) (by rw[ci,lt]) (qd hb hb1 ht aa) (by rw[e];exact qd hb hb1 (lE hr ht) aa)
 grind
def pn(p r:LiQ):LiQ:=r.map (A3 ((bE r (L5 p)).sign) * ·)
theorem pV(p r:LiQ):(pn p r).length=r.length:=by simp[pn]
theorem Hf(z:Int):z.sign = -1∨z.sign=0∨z.sign=1:=by grind
theorem Im(z:Int):A3 z.sign=z.sign:=by rcases Hf z with h|h|h<;>rw[h]<;>rfl
theorem ya{B:Nat}(h:bdN B r):bdN B (pn p r):=by
 intro a ha;obtain⟨x,hx,rfl⟩:=Zc.1 ha;have:=h x hx
 grind[Im]
theorem aaF(r:LiQ):ofQ r=szI 1 r:=by
 refine xK (b:=1) ae ?_
 induction r with
 |nil=>trivial
 |cons a r ih=>exact⟨⟨⟨Nat.one_pos,af⟩,af⟩,ih⟩
theorem TE(hp:pcS p)(lr:r.length=p.length)(hr:smR r=true):CP Y F.sX [lst di p,szV (szI 1 r)] (.tup [szV (szI 1 (pn p r)),I 0]):=by
 obtain⟨hi,h0⟩:=eh hp;have hN:=hi.2.1;have hb:=Tl hr;have ok:=qd (b:=1) (B:=1000) (r:=r) ae ae hb ae;have sg:=Tz hi (by rw[ci,lr]) (b:=1) ae (oi (b:=1) ae r) hb ae
 have e:YY p (szI 1 r) (bE r (L5 p)).sign=szI 1 (pn p r):=by
  have z:=xJ 1 p.length;have s1:=uy (b:=1) (A3 (bE r (L5 p)).sign) (o:=List.replicate p.length (0,1)) (s:=szI 1 r) (by rw[Zh,ci,lr]) z (oi ae r);rw[sL _ lr]at s1;exact xK ae s1
 have h1:=Hf (bE r (L5 p));have:=aeJ (s:=szI 1 r) hp.1 aa (by rw[ci,lr]) ok sg aa aa
 grind
theorem Pv{a:Int}(hx:rp b x a)(hw:okQ w):rp (b*w.2) (tX x w) (a*w.1):=by
 refine Br (Yx hx.1.1 hw.1) ?_;have h:=hx.2;rw[Int.natCast_mul,Int.natCast_mul]
 calc x.1*w.1*((b:Int)*(w.2:Int))=x.1*(b:Int)*(w.1*(w.2:Int)):=by ac_rfl
  _=a*(x.2:Int)*(w.1*(w.2:Int)):=by rw[h]
  _=a*w.1*((x.2:Int)*(w.2:Int)):=by ac_rfl
theorem EE{b:Nat}{w:Q}(hw:okQ w):∀{o s:List Q}{r:LiQ},o=List.replicate s.length (0,1)->rpl b s r->rpl (b*w.2) (yx w o s) (r.map (· * w.1))
 |_,[],[],ho,_=>by subst ho;trivial
 | _,x::s,a::r,ho,h=>by
  subst ho;rw[List.length_cons,List.replicate_succ];have:=NP (Pt (b*w.2)) (Pv h.1 hw);rw[Ye]at this;exact⟨this,EE hw rfl h.2⟩
 |_,[],_::_,_,h=>h.elim
 |_,_::_,[],_,h=>h.elim
theorem NN(hp:pcS p)(hw:okQ w)(w1:w.1.natAbs<1000000)(w2:w.2<1000000){B:Nat}(lr:r.length=p.length)(hr:bdN B r)(hB:B<1000000):
  CP Y F.oD [lst di p,szV (szI 1 r),.agg (qT w)] (.tup [szV (szI w.2 (r.map (· * w.1))),I 0]):=by
 obtain⟨hi,h0⟩:=eh hp;have hN:=hi.2.1
 have e:qX p.length [szI 1 r] [w]=szI w.2 (r.map (· * w.1)):=by
  have s1:=EE (b:=1) hw (o:=List.replicate p.length (0,1)) (s:=szI 1 r) (by rw[ci,lr]) (oi ae r);rw[Xr]at s1;exact xK hw.1 s1
 have bm:bdN (B*1000000) (r.map (· * w.1)):=by
  intro a ha;obtain⟨x,hx,rfl⟩:=Zc.1 ha;have:=hr x hx;rw[Y2];exact Zn this aa
 have hq:qL 30 w:=⟨cN (d:=30) aa ae,cN (d:=30) aa ae⟩;have:=TC (s:=szI 1 r) (k:=w) hp.1 aa (by rw[ci,lr]) (qd ae ae hr aa) ⟨hw,hq⟩ (by rw[e];exact qd hw.1 aa bm aa)
 grind
structure Ad where
 p:LiQ
 ch:List LLQ
 lk:List (List Lk)
 cd:List LLQ
 w:Q
def adC(a:Ad):LwQ:=[lst di a.p,lst aA a.ch,lst lkD a.lk,lst aA a.cd,S (itoa a.w.1),S (ai a.w.2)]
def adB(a:Ad):Nat×Bk:=(1,.vars (adC a))
@[simp]theorem ahF(h:Hp)(a:Ad):aS h (adC a)=some (adC a,h):=rfl
structure cI(a:Ad):Prop where
 hp:pcS a.p
 wk:wy a.p.length 8 a.ch a.lk
 lkn:∀l∈a.lk,0<l.length
 cne:∀c∈a.ch,0<c.length
 five:a.ch.length<=5
 cl:a.cd.length=a.ch.length
 cn:∀l∈a.cd,0<l.length∧l.length<=20
 cr:∀l∈a.cd,∀r∈l,r.length=a.p.length∧bdR 8 r
 w0:okQ a.w∧0<=a.w.1∧a.w.1<=1000∧a.w.2<=1000
theorem xG(h:bdR 1000 r):smR r=true:=by simp only[smR,Zv,Z8,decide_eq_true_eq];trivial
theorem dO{B:Int}(h:bdR B r)(hc:B<=C):bdR C r:=fun x hx=>by have:=h x hx;omega
theorem MX{B:Nat}(h:bdR B r):bdN B r:=fun x hx=>by have:=h x hx;omega
variable{a:Ad}
theorem xy(s:Nat)(h h':Hp)(hh:(match h[s]? with|some (e,_)=>h.set s (e+1,.vars (adC a))|none=>h)=h'){e:Nat}{b:Bk}(hs:h[s]?=some (e,b))(k:kkQ)(u:PU k):rh (cQ s (.agg (adC a)) h) k u=k (.ptr s (e+1) 0 6) h':=by simp_all[adC]
theorem Ai(G:cI a)(lr:r.length=a.p.length)(hr:bdR 1000 r):CP Y F.d7 [.agg (adC a),lst di r] (.tup [szV (szI 1 (pn a.p r)),I 0]):=by
 refine vL ?_;obtain⟨hi,h0⟩:=eh G.hp;have hN:=hi.2.1;have sm:=xG hr;have mc:=xk (p:=a.p) (r:=r) aa;rw[EV G.hp.1 lr sm]at mc;have so:=adG (r:=r) G.hp.1 aa lr sm;rw[aaF]at so;have sa:=TE G.hp lr sm;have f0:ld1 [adB a] (.ptr 0 1 0 6)=some (lst di a.p):=rfl;simp[d7,xy (a:=a) 0 [nnQ] [adB a] rfl rfl,f0]
 refine cd mc ?_;simp[f0];refine cd so ?_;simp[f0];refine cd sa ?_ (by rfl);simp;simp[aG,zE]
def uB(a:Ad)(i k:Nat):LiQ:=(pn a.p (nth [] (nth [] a.cd i) k)).map (· * a.w.1)
theorem cI.cand(G:cI a)(hi:i<a.cd.length)(hk:k<(nth [] a.cd i).length):(nth [] (nth [] a.cd i) k).length=a.p.length∧bdR 8 (nth [] (nth [] a.cd i) k):=
 G.cr _ (aQ hi) _ (aQ hk)
theorem adQ(G:cI a)(hi:i<a.cd.length)(hk:k<(nth [] a.cd i).length):CP Y F.lF [.agg (adC a),I i,I k] (.tup [szV (szI a.w.2 (uB a i k)),I 0]):=by
 refine Ci ?_;obtain⟨c1,c2⟩:=G.cand hi hk;have mg:=Ai G c1 (dO c2 aa);obtain⟨w1,w2,w3,w4⟩:=G.w0;have sc:=NN G.hp w1 aa aa (r:=pn a.p (nth [] (nth [] a.cd i) k)) (by rw[pV,c1]) (ya (MX (B:=8) c2)) ae;have f0:ld1 [adB a] (.ptr 0 1 0 6)=some (lst di a.p):=rfl
 have f3:ld1 [adB a] (.ptr 0 1 3 6)=some (lst aA a.cd):=rfl;have l6:ldA [adB a] 6 (.ptr 0 1 0 6)=some (.agg (adC a)):=rfl;have lw:ldA [adB a] 2 (.ptr 0 1 4 6)=some (.agg (qT a.w)):=rfl;have c1:∀(h:Hp),ixV h 1 (lst aA a.cd) (I i)=some (.dptr (a.cd.map aA) i):=fun h=>aJ aA _ h rfl hi
 have c2:∀(h:Hp),ld1 h (.dptr (a.cd.map aA) i)=some (mat (nth [] a.cd i)):=fun h=>aC aA [] a.cd h hi
 have d1:∀(h:Hp),ixV h 1 (mat (nth [] a.cd i)) (I k)=some (.dptr ((nth [] a.cd i).map row) k):=fun h=>aJ row _ h rfl hk
 have d2:∀(h:Hp),ld1 h (.dptr ((nth [] a.cd i).map row) k)=some (lst di (nth [] (nth [] a.cd i) k)):=fun h=>aC row [] _ h hk
 simp[lF,xy (a:=a) 0 [nnQ] [adB a] rfl rfl,l6,f3,c1,c2,d1,d2];refine cd mg ?_;simp[f0,lw];refine cd sc ?_ (by rfl);simp;exact aG (zE _ _) rfl
def mb(a:Ad):LLQ:=sZ a.p.length a.ch a.lk
def shR(a:Ad)(i k:Nat):LiQ:=dP (nth [] (mb a) i) (nth [] (nth [] a.cd i) k)
theorem Ch(h:t.length=r.length):(dP r t).length=r.length:=by simp[dP,h]
theorem Ps{n:Nat}{ch:List LLQ}{lk:List (List Lk)}(w:wy n 8 ch lk)(hne:∀l∈lk,0<l.length):∀(q d:List (List Lk))(r:LiQ),d++q=lk->r.length=n->bdR (16*d.length) r->∀j,j<=q.length->(nth [] (vg ch lk d.length r q) j).length=n∧bdR (16*(d.length+j:Nat)) (nth [] (vg ch lk d.length r q) j)
 | [],d,r,hd,hr,hb,j,hj=>by
  have:j=0:=by simpa using hj
  subst this;trivial
 |l::q,d,r,hd,hr,hb,0,hj=>⟨hr,hb⟩
 | l::q,d,r,hd,hr,hb,j+1,hj=>by
  have hdl:d.length<lk.length:=by rw[<-hd];simp
  have hlj:0<(nth [] lk d.length).length:=by rw[<-hd,bM];exact hne l (by grind)
  obtain⟨m1,m2⟩:=w.lead hdl hlj;have ih:=Ps w hne q (d++[l]) (dP r (xm ch lk d.length 0)) (by grind) (by rw[Ch aa,hr]) (dO (vK hb m2) (by grind)) j (by grind);have e:(d++[l]).length=d.length+1:=af;rw[e]at ih;have e2:d.length+1+j=d.length+(j+1):=aa;rw[e2]at ih;exact ih
theorem cI.root(G:cI a)(hi:i<a.cd.length):(nth [] (mb a) i).length=a.p.length∧bdR 64 (nth [] (mb a) i):=by
 have hl:=G.wk.len;have hc:=G.cl;have h5:=G.five;obtain⟨h1,h2⟩:=Ps G.wk G.lkn a.lk [] (List.replicate a.p.length 0) rfl af (fun x hx=>by grind) i aa;refine⟨h1,dO h2 ?_⟩
 grind
theorem Dk(a:Ad):(mb a).length=a.lk.length+1:=ED ..
theorem cI.shift(G:cI a)(hi:i<a.cd.length)(hk:k<(nth [] a.cd i).length):(shR a i k).length=a.p.length∧bdR 72 (shR a i k):=by obtain⟨h1,h2⟩:=G.root hi;obtain⟨c1,c2⟩:=G.cand hi hk;exact⟨by unfold shR;rw[Ch aa,h1],vK (B:=64) (C:=8) h2 c2⟩
theorem Uf(hl:r.length<=64)(h:bdR 1000 r):rcB r=0:=by refine w7.2 ⟨hl,fun x hx=>BD.2 ?_⟩;have:=h x hx;omega
theorem IV(G:cI a)(hi:i<a.cd.length)(hk:k<(nth [] a.cd i).length):CP Y F.gG [.agg (adC a),mat (mb a),I i,I k] (.tup [lst di (shR a i k),I 0]):=by
 refine AZ ?_;obtain⟨hin,h0⟩:=eh G.hp;have hN:=hin.2.1;have hl:=G.wk.len;have hc:=G.cl;obtain⟨r1,r2⟩:=G.root hi;obtain⟨c1,c2⟩:=G.cand hi hk;obtain⟨s1,s2⟩:=G.shift hi hk;have ra:=Rm (Uf aa (dO r2 aa)) (Uf aa (dO c2 aa)) aa (Uf (r:=shR a i k) aa (dO s2 aa))
 have mc:=xk (p:=a.p) (r:=shR a i k) aa;rw[EV G.hp.1 s1 (xG (dO s2 aa))]at mc;have f0:ld1 [adB a] (.ptr 0 1 0 6)=some (lst di a.p):=rfl;have f3:ld1 [adB a] (.ptr 0 1 3 6)=some (lst aA a.cd):=rfl;have rl:=Dk a;have e1:∀(h:Hp),ixV h 1 (mat (mb a)) (I i)=some (.dptr ((mb a).map row) i):=fun h=>aJ row _ h rfl aa
 have e2:∀(h:Hp),ld1 h (.dptr ((mb a).map row) i)=some (lst di (nth [] (mb a) i)):=fun h=>aC row [] _ h aa
 have c1:∀(h:Hp),ixV h 1 (lst aA a.cd) (I i)=some (.dptr (a.cd.map aA) i):=fun h=>aJ aA _ h rfl hi
 have c2:∀(h:Hp),ld1 h (.dptr (a.cd.map aA) i)=some (mat (nth [] a.cd i)):=fun h=>aC aA [] a.cd h hi
 have d1:∀(h:Hp),ixV h 1 (mat (nth [] a.cd i)) (I k)=some (.dptr ((nth [] a.cd i).map row) k):=fun h=>aJ row _ h rfl hk
 have d2:∀(h:Hp),ld1 h (.dptr ((nth [] a.cd i).map row) k)=some (lst di (nth [] (nth [] a.cd i) k)):=fun h=>aC row [] _ h hk
 simp[gG,xy (a:=a) 0 [nnQ] [adB a] rfl rfl,f3,e1,e2,c1,c2,d1,d2];refine cd ra ?_;simp[f0];refine cd mc ?_;simp;exact aG rfl rfl
def mvR(to y fr x:LiQ):LiQ:=jA (jA (dP to y) fr) x
theorem OY(f:Int×Int->Int):∀{a b:LiQ}{k:Nat},a.length=b.length->k<a.length->nth 0 ((a.zip b).map f) k=f (nth 0 a k,nth 0 b k)
 |x::a,y::b,0,_,_=>rfl
 | x::a,y::b,k+1,h,hk=>by
  simp_all[nth]
 |[],_,_,_,hk=>by simp at hk
 |_::_,[],_,h,_=>by simp at h
theorem FV{a b:LiQ}(h:a.length=b.length)(hk:k<a.length):nth 0 (dP a b) k=nth 0 a k+nth 0 b k:=OY _ h hk
theorem zH{a b:LiQ}(h:a.length=b.length)(hk:k<a.length):nth 0 (jA a b) k=nth 0 a k-nth 0 b k:=OY _ h hk
theorem Dx{x:LiQ}(h1:to.length=n)(h2:y.length=n)(h3:fr.length=n)(h4:x.length=n):(mvR to y fr x).length=n:=by grind[mvR,jA,dP]
theorem aaJ{x:LiQ}(h1:to.length=n)(h2:y.length=n)(h3:fr.length=n)(h4:x.length=n)(hk:k<n):nth 0 (mvR to y fr x) k=nth 0 to k+nth 0 y k-nth 0 fr k-nth 0 x k:=by
 have e1:(dP to y).length=n:=by simp[dP,h1,h2]
 have e2:(jA (dP to y) fr).length=n:=by simp[jA,e1,h3]
 unfold mvR;rw[zH aa aa,zH aa aa,FV aa aa]
theorem Ed{l:LiQ}(h:k<l.length):l.take (k+1)=l.take k++[nth 0 l k]:=by grind[Xp,aN]
def Cj:Acc:=⟨4,0,1,.none⟩
def mvH(a:Ad)(b s2:Nat×Bk)(d:Nat×Bk)(R:LLQ):Hp:=[adB a,b,s2,d,Cj.b R.length (R.map row)]
def dB(d:LiQ):Nat×Bk:=(1,.data 1 (d.map di) true false)
theorem acp{a:Ad}{n:Nat}(hn:n<1000000){to y fr x:LiQ}(l1:to.length=n)(l2:y.length=n)(l3:fr.length=n)(l4:x.length=n)(b1:bdR 1000 to)(b2:bdR 1000 y)(b3:bdR 1000 fr)(b4:bdR 1000 x)(b s2:Nat×Bk)(R:LLQ)(h0:Hp)(hh:h0.length=5)(K:KL) :
  ∀(m k:Nat),k+m=n->K (.exit 2) [] (mvH a b s2 (dB (mvR to y fr x)) R) ->
  lp (kN (CX Y) (lst di fr) (lst di to) (lst di x) (lst di y) (.ref 3 1 0 n n n) (I n)) [] h0 [I k] (mvH a b s2 (dB ((mvR to y fr x).take k++List.replicate m 0)) R) K
 | 0,k,hk,hK=>by
  have e:k=n:=aa;subst e;rw[Z6 (by simp_all[Dx]),Xi,Y8];refine aj ?_;simp[kN];exact hK
 | m+1,k,hk,hK=>by
  have hkn:k<n:=aa;have ml:=Dx l1 l2 l3 l4;have mn:=aaJ l1 l2 l3 l4 hkn;have ih:=acp (a:=a) hn l1 l2 l3 l4 b1 b2 b3 b4 b s2 R h0 hh K m (k+1) aa hK;generalize hM:mvR to y fr x=M at *;have q1:=b1 _ (aQ (d:=0) (l:=to) (i:=k) aa);have q2:=b2 _ (aQ (d:=0) (l:=y) (i:=k) aa);have q3:=b3 _ (aQ (d:=0) (l:=fr) (i:=k) aa)
  have q4:=b4 _ (aQ (d:=0) (l:=x) (i:=k) aa);have i1:∀(l:LiQ),l.length=n->∀h:Hp,ixV h 1 (lst di l) (I k)=some (.dptr (l.map di) k):=fun l hl h=>aJ di _ h rfl aa
  have i2:∀(l:LiQ),l.length=n->∀h:Hp,ld1 h (.dptr (l.map di) k)=some (I (nth 0 l k)):=fun l hl h=>aC di 0 l h aa
  have x1:=i1 to l1;have x2:=i2 to l1;have y1:=i1 y l2;have y2:=i2 y l2;have z1:=i1 fr l3;have z2:=i2 fr l3;have u1:=i1 x l4;have u2:=i2 x l4;have tl:(M.take k).length=k:=by rw[Zr];omega
  have hol:(M.take k++List.replicate (m+1) (0:Int)).length=n:=by simp;omega
  have i3:ixV (mvH a b s2 (dB (M.take k++List.replicate (m+1) 0)) R) 1 (.ref 3 1 0 n n n) (I k)=some (.ptr 3 1 k n):=by
   simp only[ixV,mvH,dB,aw];simp only[List.getElem?_cons_succ,List.getElem?_cons_zero,if_true,List.length_map,hol];rw[if_pos ⟨trivial,aa,aa⟩];simp
  have i5:∀z:Int,st (mvH a b s2 (dB (M.take k++List.replicate (m+1) 0)) R) 1 (.ptr 3 1 k n) (I z)=some (mvH a b s2 (dB (M.take k++z::List.replicate m 0)) R):=fun z=>by
   rw[KH];have e1:fh (mvH a b s2 (dB (M.take k++List.replicate (m+1) 0)) R) 3 1=.data 1 ((M.take k++List.replicate (m+1) 0).map di) true false:=rfl;rw[e1,uv _ _ _ _ _ _ _ _ _ (by rw[List.length_map,hol]) (by grind)];have e2:=wQ di (M.take k) 0 z (List.replicate m 0);rw[tl]at e2
   show some (bS _ 3 1 (.data 1 (((M.take k++0::List.replicate m 0).map di).set k (di z)) true false))=_
   rw[e2];rfl
  have tk:=Ed (l:=M) (k:=k) aa;rw[mn]at tk;rw[tk]at ih;have e1:M.take k++[nth 0 to k+nth 0 y k-nth 0 fr k-nth 0 x k]++List.replicate m 0=M.take k++(nth 0 to k+nth 0 y k-nth 0 fr k-nth 0 x k)::List.replicate m 0:=af;rw[e1]at ih;have hre:∀d,au [] 0 h0 (mvH a b s2 d R)=mvH a b s2 d R:=fun d=>aX 0 h0 _ (by simp[mvH,hh])
  have g:(k:Int)<n:=aa;have e2:((k+1:Nat):Int)=(k:Int)+1:=af;rw[e2]at ih;generalize nth 0 to k=v1 at *;generalize nth 0 y k=v2 at *;generalize nth 0 fr k=v3 at *;generalize nth 0 x k=v4 at *;refine aj ?_;simp(disch:=try exact ag)[kN,g,x1,x2,y1,y2,z1,z2,u1,u2,i3,i5,hre];exact ih
def pY(a:Ad)(i f t:Nat)(x:Lk):LiQ:=mvR (shR a (i+1) t) (pB a.ch i x) (shR a i f) (pC a.ch i x)
theorem UV{A B D:Int}{x:LiQ}(b1:bdR A to)(b2:bdR B y)(b3:bdR C fr)(b4:bdR D x):bdR (A+B+C+D) (mvR to y fr x):=zI (zI (vK b1 b2) b3) b4
def fB(f t:Nat):Nat×Bk:=(1,.vars [I (f:Int),I (t:Int)])
theorem acr{a:Ad}(G:cI a){i f t:Nat}(hi:i<a.lk.length)(hf:f<(nth [] a.cd i).length)(ht:t<(nth [] a.cd (i+1)).length)(h0:Hp)(h0e:h0=mvH a (fB f t) nnQ nnQ [])(K:KL):∀(q l:List Lk),l++q=nth [] a.lk i ->
  K (.exit 0) [Cj.v (nth [] a.lk i).length (((nth [] a.lk i).map (pY a i f t)).map row)] (mvH a (fB f t) nnQ nnQ ((nth [] a.lk i).map (pY a i f t))) ->
  lp (kP (CX Y) (I i) (.ptr 0 1 0 6) (lst di (shR a i f)) (lst di (shR a (i+1) t)) (.d (lkD (nth [] a.lk i))) (I (nth [] a.lk i).length)) [2,3] h0 [Cj.v l.length ((l.map (pY a i f t)).map row),I l.length] (mvH a (fB f t) nnQ nnQ (l.map (pY a i f t))) K
 | [],l,hl,hK=>by
  have e:l=nth [] a.lk i:=by simpa using hl
  refine aj ?_;rw[e];generalize(nth [] a.lk i).map (pY a i f t)=R at *;simp[kP];exact hK
 | z::q,l,hl,hK=>by
  have hll:(nth [] a.lk i).length=l.length+(q.length+1):=by rw[<-hl];simp
  have hlen:=G.wk.len;have hfew:=G.wk.few;have hls:=G.wk.ls _ (aQ (d:=[]) hi);obtain⟨hin,hp0⟩:=eh G.hp;have hN:=hin.2.1;have hcl:=G.cl;have hz:nth (0,0) (nth [] a.lk i) l.length=z:=by rw[<-hl,bM]
  obtain⟨⟨a0,a1⟩,⟨b0,b1⟩,⟨n1,n2⟩,n3,n4⟩:=G.wk.notes hi (j:=l.length) aa;rw[hz]at a0 a1 b0 b1 n1 n2 n3 n4;obtain⟨s1,s2⟩:=G.shift (i:=i) (k:=f) aa hf;obtain⟨t1,t2⟩:=G.shift (i:=i+1) (k:=t) aa ht;obtain⟨M,hM⟩:=nmQ (pY a i f t z);have hM':mvR (shR a (i+1) t) (pB a.ch i z) (shR a i f) (pC a.ch i z)=M:=hM.symm
  have Ml:M.length=a.p.length:=by rw[<-hM'];exact Dx t1 n3 s1 n1
  have Mb:bdR 160 M:=by rw[<-hM'];exact UV (A:=72) (B:=8) (C:=72) (D:=8) t2 n4 s2 n2
  have mc:=xk (p:=a.p) (r:=M) aa;rw[EV G.hp.1 Ml (xG (dO Mb aa))]at mc;obtain⟨x,y⟩:=z;simp only at a0 a1 b0 b1
  have i1:∀h:Hp,ixV h 2 (.d (lkD (nth [] a.lk i))) (I l.length)=some (.dptr ((nth [] a.lk i).flatMap lkC) (l.length*2)):=fun h=>by
   have:=ou lkC tQ (nth [] a.lk i) h (k:=.i64) (i:=(l.length:Int)) aa aa;trivial
  have i2:∀h:Hp,ldA h 2 (.dptr ((nth [] a.lk i).flatMap lkC) (l.length*2))=some (.agg [I x,I y]):=fun h=>by
   have:=ot lkC tQ ((0,0):Lk) (nth [] a.lk i) h (j:=l.length) aa;rw[this,hz];rfl
  have f1:∀(b s2 d e:Nat×Bk),fh [adB a,b,s2,d,e] 0 1=.vars (adC a):=fun _ _ _ _=>rfl
  have f2:∀(b s2 d e:Nat×Bk),ld1 [adB a,b,s2,d,e] (.ptr 0 1 1 6)=some (lst aA a.ch):=fun _ _ _ _=>rfl
  have f0:∀(b s2 d e:Nat×Bk),ld1 [adB a,b,s2,d,e] (.ptr 0 1 0 6)=some (lst di a.p):=fun _ _ _ _=>rfl
  have c1:∀(h:Hp),ixV h 1 (lst aA a.ch) (I i)=some (.dptr (a.ch.map aA) i):=fun h=>aJ aA _ h rfl aa
  have c2:∀(h:Hp),ld1 h (.dptr (a.ch.map aA) i)=some (mat (nth [] a.ch i)):=fun h=>aC aA [] a.ch h aa
  have c3:∀(h:Hp),ixV h 1 (lst aA a.ch) (I ((i:Int)+1))=some (.dptr (a.ch.map aA) (i+1)):=fun h=>aJ aA _ h aa aa
  have c4:∀(h:Hp),ld1 h (.dptr (a.ch.map aA) (i+1))=some (mat (nth [] a.ch (i+1))):=fun h=>aC aA [] a.ch h aa
  have d1:∀(h:Hp),ixV h 1 (mat (nth [] a.ch i)) (I x)=some (.dptr ((nth [] a.ch i).map row) x.toNat):=fun h=>kv row _ h a0 aa
  have d2:∀(h:Hp),ld1 h (.dptr ((nth [] a.ch i).map row) x.toNat)=some (lst di (pC a.ch i (x,y))):=fun h=>aC row [] _ h aa
  have d3:∀(h:Hp),ixV h 1 (mat (nth [] a.ch (i+1))) (I y)=some (.dptr ((nth [] a.ch (i+1)).map row) y.toNat):=fun h=>kv row _ h b0 aa
  have d4:∀(h:Hp),ld1 h (.dptr ((nth [] a.ch (i+1)).map row) y.toNat)=some (lst di (pB a.ch i (x,y))):=fun h=>aC row [] _ h aa
  refine aj ?_;obtain⟨R,hR⟩:=nmQ (l.map (pY a i f t));have hRl:R.length=l.length:=by rw[hR];simp
  rw[<-hR];simp only[mvH];simp(disch:=try exact ag)[kP,i1,i2,f2,c1,c2,c3,c4,d1,d2,d3,d4];rw[n1]
  have eH:([adB a,fB f t,(1,Bk.vars [I x,I y]),(1,Bk.data 1 (List.replicate a.p.length (D.int IntKind.i64 0)) true false),Cj.b R.length (R.map row)]:Hp)=mvH a (fB f t) (1,.vars [I x,I y]) (dB ((mvR (shR a (i+1) t) (pB a.ch i (x,y)) (shR a i f) (pC a.ch i (x,y))).take 0++List.replicate a.p.length 0)) R:=by simp[mvH,dB,di]
  rw[eH];refine lo (acp (a:=a) (n:=a.p.length) aa t1 n3 s1 n1 (dO t2 aa) (dO n4 aa) (dO s2 aa) (dO n2 aa) (fB f t) (1,.vars [I x,I y]) R _ rfl _ a.p.length 0 aa ?_);rw[hM']
  have hgX:fh (mvH a (fB f t) (1,.vars [I x,I y]) (dB M) R) 0 1=.vars [lst di a.p,lst aA a.ch,lst lkD a.lk,lst aA a.cd,S (itoa a.w.1),S (ai a.w.2)]:=rfl
  have sn:aS (mvH a (fB f t) (1,.vars [I x,I y]) (dB M) R) [lst di a.p,.ref 3 1 0 a.p.length a.p.length a.p.length]=some ([lst di a.p,lst di M],mvH a (fB f t) (1,.vars [I x,I y]) (1,.data 1 (M.map di) true true) R):=by
   simp[aS,bJ,toD,mvH,dB,aw,bS,lst,Ml,Z6]
  have li:cO 1 [nPQ] [(0,V.ref 3 1 0 a.p.length a.p.length a.p.length)] (mvH a (fB f t) (1,.vars [I x,I y]) (dB M) R)=some ([row M],mvH a (fB f t) (1,.vars [I x,I y]) (1,.data 1 (M.map di) true true) R):=by
   simp[cO,jv,iH,toD,mvH,dB,aw,bS,row,Ml,Z6]
  simp[hgX];refine cdz sn mc ?_;rw[show fN (I 0)=true from rfl,if_pos rfl];simp[li];refine hO Cj (L:=l.length) (k:=1) (cells:=R.map row) (cs:=[row M]) aa (by rw[<-hRl];rfl) (by grind[Cj]) rfl rfl (fun t e=>by cases e) aa ae ?_
  have g2:biI .add (I l.length) (.d (.int .i64 1))=some (I ((l++[(x,y)]).length:Int)):=by
   have:=FW (a:=(l.length:Int)) (b:=1) aa;rw[show(I 1:V)=.d (.int .i64 1)from rfl]at this;rw[this];simp
  show bnd _ _
  rw[g2];have eR:(l++[(x,y)]).map (pY a i f t)=R++[M]:=by rw[Xx,<-hR,hM];rfl
  have ih:=acr G hi hf ht h0 h0e K q (l++[(x,y)]) (by grind) hK;rw[eR]at ih
  have eS:(mvH a (fB f t) (1,.vars [I x,I y]) (1,.data 1 (M.map di) true true) R).set Cj.s (Cj.b (l.length+1) (R.map row++[row M]))=mvH a (fB f t) (1,.vars [I x,I y]) (1,.data 1 (M.map di) true true) (R++[M]):=by
   rw[<-hRl];simp[mvH,Cj]
  rw[eS]
  have cl1:clean [2,3] [Cj.v (l.length+1) (R.map row++[row M]),I ((l++[(x,y)]).length:Int)] (mvH a (fB f t) (1,.vars [I x,I y]) (1,.data 1 (M.map di) true true) (R++[M]))=true:=by
   simp[mvH,clean,dT,kH,Acc.v,Acc.b,Cj,dw,qk,offB,adB,adC,fB];exact⟨⟨rfl,rfl⟩,rfl,rfl,rfl,rfl⟩
  refine⟨cl1,?_⟩
  have re1:au [2,3] 0 h0 (mvH a (fB f t) (1,.vars [I x,I y]) (1,.data 1 (M.map di) true true) (R++[M]))=mvH a (fB f t) nnQ nnQ (R++[M]):=by
   rw[h0e];rfl
  grind
theorem LK{a:Ad}(G:cI a){f t:Nat}(hi:i<a.lk.length)(hf:f<(nth [] a.cd i).length)(ht:t<(nth [] a.cd (i+1)).length):
  CP Y F.du [.agg (adC a),mat (mb a),I i,.agg [I f,I t]] (.tup [mat ((nth [] a.lk i).map (pY a i f t)),I 0]):=by
 refine zq ?_;have hlen:=G.wk.len;have hfew:=G.wk.few;have hcl:=G.cl;have r1:=IV G (i:=i) (k:=f) aa hf;have r2:=IV G (i:=i+1) (k:=t) aa ht;have ei:((i+1:Nat):Int)=(i:Int)+1:=af;rw[ei]at r2;have bx:=xy (a:=a) 0 [nnQ,nnQ,nnQ,nnQ,nnQ] [adB a,nnQ,nnQ,nnQ,nnQ] rfl rfl
 have l6:ldA [adB a,fB f t,nnQ,nnQ,nnQ] 6 (.ptr 0 1 0 6)=some (.agg (adC a)):=rfl;have f2:ld1 [adB a,fB f t,nnQ,nnQ,nnQ] (.ptr 0 1 2 6)=some (lst lkD a.lk):=rfl;have g0:ld1 [adB a,fB f t,nnQ,nnQ,nnQ] (.ptr 1 1 0 2)=some (I f):=rfl;have g1:ld1 [adB a,fB f t,nnQ,nnQ,nnQ] (.ptr 1 1 1 2)=some (I t):=rfl
 have bl:∀(k:kkQ)(u:PU k),rh (cQ 1 (.agg [I f,I t]) [adB a,nnQ,nnQ,nnQ,nnQ]) k u=k (.ptr 1 1 0 2) [adB a,fB f t,nnQ,nnQ,nnQ]:=fun _ _=>rfl
 have k1:∀h:Hp,ixV h 1 (lst lkD a.lk) (I i)=some (.dptr (a.lk.map lkD) i):=fun h=>aJ lkD _ h rfl hi
 have k2:∀h:Hp,ld1 h (.dptr (a.lk.map lkD) i)=some (.d (lkD (nth [] a.lk i))):=fun h=>aC lkD [] a.lk h hi
 simp[du,bx,bl,l6,g0];refine cd r1 ?_;simp(disch:=try exact ag)[l6,g1];refine cd r2 ?_;simp[f2,k1,k2];have eH:([adB a,fB f t,nnQ,nnQ,nnQ]:Hp)=mvH a (fB f t) nnQ nnQ []:=rfl;rw[eH];refine lo (acr G hi hf ht _ rfl _ (nth [] a.lk i) [] rfl ?_);have hRl:((nth [] a.lk i).map (pY a i f t)).length=(nth [] a.lk i).length:=af
 rw[<-hRl];generalize(nth [] a.lk i).map (pY a i f t)=R at *;obtain⟨h',q1,_⟩:=uR Cj (L:=R.length) (cells:=R.map row) (h:=mvH a (fB f t) nnQ nnQ R) rfl (by simp[Cj]);simp;exact aG q1 rfl
end Go.Vm
