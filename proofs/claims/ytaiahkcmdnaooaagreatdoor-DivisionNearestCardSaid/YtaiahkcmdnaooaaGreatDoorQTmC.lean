/- The terms of a size: near, quick. -/
import Derived.Test.YtaiahkcmdnaooaaGreatDoorQRefRow
import Derived.Test.YtaiahkcmdnaooaaGreatDoorQT
set_option linter.unusedVariables false
set_option linter.unusedSimpArgs false
namespace Go.Vm
open Go Go.Am Go.Big
theorem rM:∀ (r low high out a:Nat),pu r low high out=some a->a<(out+1)*2 ^ r
 | 0,low,high,out,a,h=>by simp only [pu,Z9] at h;subst h;simp
 | r+1,low,high,out,a,h=>by
  have e:∀ x:Nat,(x+1)*2 ^ (r+1)=(2*x+2)*2 ^ r:=fun x=>by rw [Nat.pow_succ,Zy (2 ^ r) 2,<- Nat.mul_assoc];congr 1;omega
  rw [e];simp only [pu] at h;cases c1:Nat.ble E63 (low*low / E62) with
  | true=>
   rw [c1] at h;have:=rM r _ _ _ a h
   rwa [show out*2+1+1=2*out+2 by omega] at this
  | false=>
   rw [c1] at h;cases c2:Nat.ble E63 (high*high / E62+1) with
   | true=>rw [c2] at h;cases h
   | false=>
    rw [c2] at h;have:=rM r _ _ _ a h;exact Z2 this (Z1 _ (by omega))
theorem Ms {p a:Nat} (hp:2<=p) (hp2:p<1000000) (h:sk p=some a):a<1342177280:=by
 obtain ⟨hk0,hpk,hk1⟩:=kR (n:=p) (by omega)
 have hk20:aY p<=20:=by
  have:2 ^ (aY p-1)<2 ^ 20:=by omega
  have:=(Y5 (by decide:1<2)).1 this;omega
 have:=rM _ _ _ _ _ h;have h2:(aY p-1+1)*2 ^ 26<=20*2 ^ 26:=Z1 _ (by omega);omega
theorem Qz (x y:Int):mx2 false x y=min x y:=by unfold mx2;simp;omega
theorem GA (x y:Int):mx2 true x y=max x y:=by unfold mx2;simp;omega
def gm (most:Int):List (Int × Int)->Int × Int->Option (Int × Int)
 | [],a=>some a
 | t::ts,a=>if most<t.2∨t.2 < -most then none else match sk t.1.toNat with
  | none=>none
  | some f=>
   let b:Int:=if t.1=2 then f else f+1
   gm most ts (a.1+min (t.2*f) (t.2*b),a.2+max (t.2*f) (t.2*b))
def neV:Option (Int × Int)->V
 | some a=>.tup [I a.1,I a.2,B true]
 | none=>.tup [I 0,I 0,B false]
def mB (ts:List (Int × Int)) (d:Nat) (n lo hi:Int) (b:Bool):Hp:=[(1,.vars ((tmD ts d).map .d)),(1,.vars [I n]),(1,.vars [I lo]),(1,.vars [I hi]),(1,.vars [B b])]
theorem xH {d:Nat} {most:Int} (hm0:0<=most) (hm:most<=10000000) {tt:List (Int × Int)} (k:Exit->Hp->Prop) (h0:Hp) (hh:h0.length=5):∀ (ts:List (Int × Int)) (lo hi B:Int),(∀ t∈ts,2<=t.1∧t.1<1000000∧t.2.natAbs<9223372036854775808)->B+ts.length*13421772810000000<=9000000000000000000->-B<=lo->lo<=B->-B<=hi->hi<=B ->
  (∀ a,gm most ts (lo,hi)=some a->k .normal (mB tt d most a.1 a.2 false))->(gm most ts (lo,hi)=none->k .ret (mB tt d most 0 0 false)) ->
  rg 2 (cw (CX Y) (.ptr 1 1 0 1) (.ptr 2 1 0 1) (.ptr 3 1 0 1) (.ptr 4 1 0 1)) [] h0 k (tmX ts) (mB tt d most lo hi false)
 | [],lo,hi,Bd,hl,hb,h1,h2,h3,h4,hk,hn=>by
  simpa [tmX,rg] using hk (lo,hi) rfl
 | t::ts,lo,hi,Bd,hl,hb,h1,h2,h3,h4,hk,hn=>by
  obtain ⟨l1,l2,l3⟩:=hl t (by simp);have sm:=u0 (z:=t.2) l3;obtain ⟨p,hp⟩:∃ p:Nat,t.1=p:=⟨t.1.toNat,by omega⟩;have hpn:t.1.toNat=p:=by omega
  have fa:=fast_ok (p:=p) (by omega) (by omega);rw [<- hp] at fa;have eL:([.int .i64 t.1,.string ⟨⟨itoa t.2⟩⟩]:List Value).map (fun v=>V.d (gn v))=[I t.1,S (itoa t.2)]:=rfl;simp only [gm,hpn] at hk hn;have hlen:∀ x:Hp,x.length=5->ay [] 0 h0 x=x:=fun x hx=>et 0 h0 x (by omega)
  simp only [tmX,Zw];refine HE rfl ?_;rw [eL];by_cases c1:most<t.2
  ·rw [if_pos (.inl c1)] at hn;simp (disch:=first|omega|simp<;>omega|fail)[cw,mB,tmD];refine cd sm ?_ (by simp [ae,aA]);simp (disch:=first|omega|simp<;>omega|fail)[c1];simpa [mB,tmD] using hn rfl
  ·by_cases c2:t.2 < -most
   ·rw [if_pos (.inr c2)] at hn;simp (disch:=first|omega|simp<;>omega|fail)[cw,mB,tmD];refine cd sm ?_ (by simp [ae,aA]);simp (disch:=first|omega|simp<;>omega|fail)[c1,c2];simpa [mB,tmD] using hn rfl
   ·rw [if_neg (by omega)] at hn;simp only [show ¬ (most<t.2∨t.2 < -most) by omega,if_false] at hk;cases hf:sk p with
    | none=>
     rw [hf] at fa hn;simp (disch:=first|omega|simp<;>omega|fail)[cw,mB,tmD];refine cd sm ?_ (by simp [ae,aA]);simp (disch:=first|omega|simp<;>omega|fail)[c1,c2];refine cd fa ?_;simp (disch:=first|omega|simp<;>omega|fail)[Mt];simpa [mB,tmD] using hn rfl
    | some f=>
     have hflt:=Ms (by omega) (by omega) hf;rw [hf] at fa hk hn;simp only at hk hn;obtain ⟨b,hb'⟩:∃ b:Int,b=(if t.1=2 then (f:Int) else f+1):=⟨_,rfl⟩;rw [<- hb'] at hk hn;have hbb:(f:Int)<=b∧b<=f+1:=by subst hb';split <;> omega
     obtain ⟨x,hx⟩:∃ x:Int,x=t.2*f:=⟨_,rfl⟩;obtain ⟨y,hy⟩:∃ y:Int,y=t.2*b:=⟨_,rfl⟩
     have bd:∀ z:Int,0<=z->z<=1342177281->-13421772810000000<=t.2*z∧t.2*z<=13421772810000000:=by
      intro z hz0 hz;have a1:t.2*z<=10000000*z:=Zp (by omega) hz0;have a2:(-10000000)*z<=t.2*z:=Zp (by omega) hz0;omega
     have bx:=bd f (by omega) (by omega);have by_:=bd b (by omega) (by omega);rw [<- hx] at bx hk hn;rw [<- hy] at by_ hk hn;have ih:=xH (tt:=tt) (d:=d) hm0 hm k h0 hh ts (lo+min x y) (hi+max x y) (Bd+13421772810000000) (fun t ht=>hl t (by simp [ht])) (by simp at hb;omega) (by omega) (by omega) (by omega) (by omega) hk hn;simp at hb
     have m1:biI .mul (I t.2) (I (f:Int))=some (I x):=by rw [kq,<- hx,wrap_i64 ⟨by omega,by omega⟩]
     have m2:biI .mul (I t.2) (I b)=some (I y):=by rw [kq,<- hy,wrap_i64 ⟨by omega,by omega⟩]
     have tail:∀ q:Exit->Hp->Prop,q .normal (mB tt d most (lo+min x y) (hi+max x y) false)->jn (fun l26 h=>
       bnd (ld1 h (.ptr 2 1 0 1)) fun v28=>
       bnd (biI .mul (I t.2) (I (f:Int))) fun v29=>
       bnd (biI .mul (I t.2) (ge l26 0)) fun v30=>
       bnd (mxI false [v29,v30]) fun v31=>
       bnd (biI .add v28 v31) fun v32=>
       bnd (ld1 h (.ptr 3 1 0 1)) fun v33=>
       bnd (biI .mul (I t.2) (I (f:Int))) fun v34=>
       bnd (biI .mul (I t.2) (ge l26 0)) fun v35=>
       bnd (mxI true [v34,v35]) fun v36=>
       bnd (biI .add v33 v36) fun v37=>
       sp h (.ptr 2 1 0 1) [.ptr 3 1 0 1] <| stD h 1 (.ptr 2 1 0 1) v32 fun _ h=>
       stD h 1 (.ptr 3 1 0 1) v37 fun _ h=>
       q .normal h) fun q27=>q27 [I b] (mB tt d most lo hi false):=by
      intro q hq;rw [ES (l:=[I b]) (h:=mB tt d most lo hi false) (fun q=>rfl)];have x1:mxI false [I x,I y]=some (I (min x y)):=by simp only [mxI,Qz]
      have x2:mxI true [I x,I y]=some (I (max x y)):=by simp only [mxI,GA]
      have a1:biI .add (I lo) (I (min x y))=some (I (lo+min x y)):=by rw [rQ,wrap_i64 ⟨by omega,by omega⟩]
      have a2:biI .add (I hi) (I (max x y))=some (I (hi+max x y)):=by rw [rQ,wrap_i64 ⟨by omega,by omega⟩]
      generalize lo+min x y=lo2 at *;generalize hi+max x y=hi2 at *;simp (disch:=first|omega|simp<;>omega|fail)[mB,tmD,m1,m2,x1,x2,a1,a2];refine Dw (by rfl) ?_;simpa [mB,tmD] using hq
     have hne1:biI .add (I (f:Int)) (.d (.int .i64 1))=some (I ((f:Int)+1)):=by rw [rQ,wrap_i64 ⟨by omega,by omega⟩]
     have fin:m8 [] 0 (mB tt d most (lo+min x y) (hi+max x y) false)=true∧rg 2 (cw (CX Y) (.ptr 1 1 0 1) (.ptr 2 1 0 1) (.ptr 3 1 0 1) (.ptr 4 1 0 1)) [] h0 k (tmX ts) (ay [] 0 h0 (mB tt d most (lo+min x y) (hi+max x y) false)):=by
      rw [hlen _ (by rfl)];exact ⟨by simp [mB,tmD,mt,mr,dw,r8,eC,ji],ih⟩
     simp (disch:=first|omega|simp<;>omega|fail)[cw,mB,tmD];refine cd sm ?_ (by simp [ae,aA]);simp (disch:=first|omega|simp<;>omega|fail)[c1,c2];refine cd fa ?_
     have tl:=tail (fun ex h'=>match ex with
      | .normal=>m8 [] 0 h'=true∧rg 2 (cw (CX Y) (.ptr 1 1 0 1) (.ptr 2 1 0 1) (.ptr 3 1 0 1) (.ptr 4 1 0 1)) [] h0 k (tmX ts) (ay [] 0 h0 h')
      | ex=>k ex h') fin
     rw [ES (l:=[I b]) (h:=mB tt d most lo hi false) (fun q=>rfl)] at tl;simp (disch:=first|omega|simp<;>omega|fail)[Mt,hne1];refine eU (l:=[I b]) (h:=mB tt d most lo hi false) (fun q=>?_) ?_
     ·by_cases h2':t.1=2
      ·rw [if_pos h2'] at hb';rw [decide_eq_true h2',hb'];rfl
      ·rw [if_neg h2'] at hb';rw [decide_eq_false h2',hb'];rfl
     ·exact tl
theorem xG {ts:List (Int × Int)} {d:Nat} {most:Int} (hm0:0<=most) (hm:most<=10000000) (hl:∀ t∈ts,2<=t.1∧t.1<1000000∧t.2.natAbs<9223372036854775808) (hb:ts.length<=600):CP Y F.bU [tmV ts d,I most] (neV (gm most ts (0,0))):=by
 refine tD ?_;have al:=Nr ts d;have al':CP Y F.dL [.agg [.d (.sl ts.length (ts.map tmP)),.d (.sl ts.length (ts.map tmK)),S (aa d)]] (.fn F.cl [] [.dptr (tmD ts d) 0]):=al
 have nl:=xH (d:=d) (most:=most) hm0 hm (tt:=ts) (fun ex h=>exK [(.ret,fun _ h=>
  bnd (ld1 h (.ptr 2 1 0 1)) fun v8=>
  bnd (ld1 h (.ptr 3 1 0 1)) fun v9=>
  bnd (ld1 h (.ptr 4 1 0 1)) fun v10=>
  out (neV (gm most ts (0,0))) (.tup [v8,v9,v10]) h),
  (.normal,fun _ h=>
   bnd (ld1 h (.ptr 2 1 0 1)) fun v11=>
   bnd (ld1 h (.ptr 3 1 0 1)) fun v12=>
   sp h (.ptr 2 1 0 1) [.ptr 3 1 0 1] <| stD h 1 (.ptr 2 1 0 1) v11 fun _ h=>
   stD h 1 (.ptr 3 1 0 1) v12 fun _ h=>
   stD h 1 (.ptr 4 1 0 1) (.d (.bool true)) fun _ h=>
   bnd (ld1 h (.ptr 2 1 0 1)) fun v16=>
   bnd (ld1 h (.ptr 3 1 0 1)) fun v17=>
   bnd (ld1 h (.ptr 4 1 0 1)) fun v18=>
   out (neV (gm most ts (0,0))) (.tup [v16,v17,v18]) h)] ex [] h) (mB ts d most 0 0 false) rfl ts 0 0 0 hl (by omega) (by omega) (by omega) (by omega) (by omega) (fun a ha=>by
   rw [ha];simp (disch:=first|omega|simp<;>omega|fail)[mB,tmD];refine Dw (by rfl) ?_;exact gN rfl rfl rfl) (fun ha=>by
   rw [ha];simp (disch:=first|omega|simp<;>omega|fail)[mB,tmD];exact gN rfl rfl rfl)
 simp (disch:=first|omega|simp<;>omega|fail)[bU,tmV];refine cd al' ?_ (by simp [ae,aA]);simp (disch:=first|omega|simp<;>omega|fail)[];refine ro (Pw (by omega) d) ?_;simp only [mB,tmD,Zw,Y7] at nl;exact nl
def okT (ts:List (Int × Int)):Prop:=ts.length<=600∧∀ t∈ts,2<=t.1∧t.1<1000000∧t.2.natAbs<9223372036854775808
theorem tR {ts:List (Int × Int)} (h:okT ts):∀ t∈ts,ndg t.2.natAbs<=100000:=fun t ht=>
 Z3 (a6 (d:=19) (by have:=(h.2 t ht).2.2;omega) (by decide)) (by decide)
def mf (ts:List (Int × Int)):Int:=match gm 10000000 ts (0,0) with
 | none=>0
 | some a=>if 0<=a.1 then 1 else if a.2<=0 then -1 else 0
theorem Lg {ts:List (Int × Int)} {d:Nat} (h:okT ts):CP Y F.ef [tmV ts d] (I (mf ts)):=by
 refine sI ?_;have ne:=xG (d:=d) (most:=10000000) (by decide) (by decide) h.2 h.1;have ne':CP Y F.bU [.agg [.d (.sl ts.length (ts.map tmP)),.d (.sl ts.length (ts.map tmK)),S (aa d)],I 10000000] (neV (gm 10000000 ts (0,0))):=ne;simp (disch:=first|omega|simp<;>omega|fail)[ef,tmV];refine cd ne' ?_ (by simp [ae,aA]);unfold mf
 cases gm 10000000 ts (0,0) with
 | none=>
  simp (disch:=first|omega|simp<;>omega|fail)[neV]
 | some a=>
  simp only;by_cases c1:0<=a.1
  ·rw [if_pos c1];simp (disch:=first|omega|simp<;>omega|fail)[neV,c1]
  ·rw [if_neg c1];by_cases c2:a.2<=0
   ·rw [if_pos c2];simp (disch:=first|omega|simp<;>omega|fail)[neV,c1,c2]
   ·rw [if_neg c2];simp (disch:=first|omega|simp<;>omega|fail)[neV,c1,c2]
def vY (ts:List (Int × Int)):Prop:=∀ i,i<6->On (64*2 ^ i) ts
def BV (ts:List (Int × Int)):Nat->Nat->Option Int
 | 0,_=>none
 | r+1,n=>if 0<=(aQ n ts (0,0)).1 then some 1 else if (aQ n ts (0,0)).2<=0 then some (-1) else BV ts r (n*2)
def xW (ts:List (Int × Int)):Option Int:=match ts with
 | []=>some 0
 | _=>if mf ts≠0 then some (mf ts) else BV ts 6 64
theorem Gb (z:Int):0<=sgn z↔0<=z:=by unfold sgn;split <;> (try split) <;> omega
theorem sJ (z:Int):sgn z<=0↔z<=0:=by unfold sgn;split <;> (try split) <;> omega
theorem xE {ts:List (Int × Int)} {d:Nat} (h:okT ts) (hl:vY ts) (k:KL) (h0:Hp) (hh:h0.length=1):∀ (r i:Nat) (s:Int),i+r=6->BV ts r (64*2 ^ i)=some s->(∀ h,k .ret [I s] h) ->
  lp (kt (CX Y) (.ptr 0 1 0 3)) [] h0 [I ((64*2 ^ i:Nat):Int)] [(1,.vars ((tmD ts d).map .d))] k
 | 0,i,s,hi,hs,hk=>by simp [BV] at hs
 | r+1,i,s,hi,hs,hk=>by
  have hn:64*2 ^ i<=3900:=by
   have:2 ^ i<=2 ^ 5:=Z5 (by decide) (by omega);omega
  have en:=Cs (n:=64*2 ^ i) (d:=d) hn (hl i (by omega)) (tR h) (by have:=h.1;omega);have en':CP Y F.bV [.agg [.d (.sl ts.length (ts.map tmP)),.d (.sl ts.length (ts.map tmK)),S (aa d)],I ((64*2 ^ i:Nat):Int)] (.tup [S (itoa (aQ (64*2 ^ i) ts (0,0)).1),S (itoa (aQ (64*2 ^ i) ts (0,0)).2)]):=en
  have hd:64*2 ^ i*2=64*2 ^ (i+1):=by rw [Nat.pow_succ,<- Nat.mul_assoc]
  simp only [BV,hd] at hs;generalize aQ (64*2 ^ i) ts (0,0)=e at *;have ih:=xE (d:=d) h hl k h0 hh r (i+1) s (by omega);have hm:((64*2 ^ i:Nat):Int)*2=((64*2 ^ (i+1):Nat):Int):=by rw [<- hd];omega
  generalize 64*2 ^ (i+1)=m2 at *;generalize 64*2 ^ i=m at *;have s1:=iO e.1;have s2:=iO e.2;have n1:=Gb e.1;have n2:=sJ e.2;refine aj ?_;simp (disch:=first|omega|simp<;>omega|fail)[kt,tmD];refine cd en' ?_ (by simp [ae,aA]);simp (disch:=first|omega|simp<;>omega|fail)[];refine cd s1 ?_ (by simp [ae,aA]);by_cases c1:0<=e.1
  ·rw [if_pos c1] at hs;simp only [Z9] at hs;subst hs;have c1':0<=sgn e.1:=n1.2 c1;simp (disch:=first|omega|simp<;>omega|fail)[c1'];exact hk _
  ·rw [if_neg c1] at hs;have c1':¬ 0<=sgn e.1:=fun x=>c1 (n1.1 x)
   simp (disch:=first|omega|simp<;>omega|fail)[c1'];refine cd s2 ?_ (by simp [ae,aA]);by_cases c2:e.2<=0
   ·rw [if_pos c2] at hs;simp only [Z9] at hs;subst hs;have c2':sgn e.2<=0:=n2.2 c2;simp (disch:=first|omega|simp<;>omega|fail)[c2'];exact hk _
   ·rw [if_neg c2] at hs;have c2':¬ sgn e.2<=0:=fun x=>c2 (n2.1 x)
    have ih:=ih hs hk;simp (disch:=first|omega|simp<;>omega|fail)[c2',hm];exact ih
theorem DR {ts:List (Int × Int)} {d:Nat} (h:okT ts) (hl:vY ts) {z:Int} (hs:xW ts=some z):CP Y F.dh [tmV ts d] (I z):=by
 refine tC ?_;have qo:=Lg (d:=d) h;have qo':CP Y F.ef [.agg [.d (.sl ts.length (ts.map tmP)),.d (.sl ts.length (ts.map tmK)),S (aa d)]] (I (mf ts)):=qo;cases hts:ts with
 | nil=>
  subst hts;simp only [xW,Z9] at hs;subst hs;simp (disch:=first|omega|simp<;>omega|fail)[dh,tmV,am]
 | cons t r=>
  have hne:¬ ts=[]:=by rw [hts];simp
  have hs':(if mf ts≠0 then some (mf ts) else BV ts 6 64)=some z:=by rw [hts] at hs ⊢;exact hs
  rw [<- hts];have ll:am (.d (.sl ts.length (ts.map tmP)))=some (I ts.length):=rfl;by_cases hq:mf ts=0
  ·rw [if_neg (by simpa using hq)] at hs'
   have sl:=xE (d:=d) h hl (exK [(.ret,fun l9 h=>out (I z) (ge l9 0) h)]) [(1,.vars ((tmD ts d).map .d))] rfl 6 0 z rfl hs' (fun h=>by
    simp (disch:=first|omega|simp<;>omega|fail)[])
   simp only [tmD,Zw,Y7] at sl;rw [hq] at qo';simp (disch:=first|omega|simp<;>omega|fail)[dh,tmV,ll,hne];refine cd qo' ?_ (by simp [ae,aA]);simp (disch:=first|omega|simp<;>omega|fail)[];exact sl
  ·rw [if_pos (by simpa using hq)] at hs';simp only [Z9] at hs';subst hs';simp (disch:=first|omega|simp<;>omega|fail)[dh,tmV,ll,hne];refine cd qo' ?_ (by simp [ae,aA]);simp (disch:=first|omega|simp<;>omega|fail)[hq]
def tq (p:List Int) (s:List Q):List (Int × Int):=cJ (fH 1 s) p s
def wC (p:List Int) (s:List Q) (z:Int):Prop:=okT (tq p s)∧vY (tq p s)∧xW (tq p s)=some z
theorem Bi {p:List Int} {s:List Q} (hp:pcB p=0) (hN:p.length<1000000) (hl:s.length=p.length) (hs:okS s):CP Y F.iD [lst di p,szV s] (I 0):=by
 have:=DO (p:=p) (s:=s.map tx) (by omega) (fun x hx=>by
  obtain ⟨y,hy,rfl⟩:=Zd.1 hx;obtain ⟨l1,l2⟩:=By (hs y hy).2;omega) (by simp;omega)
 unfold siB scB at this;rw [if_pos hp,List.length_map,if_pos hl,BB hs] at this;exact this
theorem Pq {p:List Int} {s:List Q} {z:Int} (hp:pcB p=0) (hN:p.length<3000) (hl:s.length=p.length) (hs:okS s) (hz:wC p s z):CP Y F.mQ [lst di p,szV s] (.tup [I z,I 0]):=by
 refine DN ?_;obtain ⟨h1,h2,h3⟩:=hz;have ck:=Bi hp (by omega) hl hs;have to_:=mV (p:=p) (s:=s) (K:=30) (by omega) hl.symm hs (by omega) (by decide);have si:=DR (d:=fH 1 s) h1 h2 h3;simp (disch:=first|omega|simp<;>omega|fail)[mQ];refine cd ck ?_ (by simp [ae,szV,dI]);simp (disch:=first|omega|simp<;>omega|fail)[];refine cd to_ ?_ (by simp [ae,szV,dI])
 simp (disch:=first|omega|simp<;>omega|fail)[];refine cd si ?_ (by simp [ae,aA,tmV]);exact ai rfl rfl
def dfS (p:List Int) (a b:List Q):List Q:=j8 p.length [a,b] [(1,1),(-1,1)]
theorem HV:okK 1 [(1,1),(-1,1)]:=fun x hx=>by
 simp at hx;rcases hx with rfl | rfl
 ·exact ⟨⟨by decide,by decide⟩,a6 (by decide) (by decide),a6 (by decide) (by decide)⟩
 ·exact ⟨⟨by decide,by decide⟩,a6 (by decide) (by decide),a6 (by decide) (by decide)⟩
theorem G1 {p:List Int} {a b:List Q} {z:Int} (hN:p.length<1000) (ha:a.length=p.length) (hb:b.length=p.length) (oa:okS a) (ob:okS b) (hz:wC p (dfS p a b) z):CP Y F.jN [lst di p,szV a,szV b] (I z):=by
 refine xT ?_;obtain ⟨h1,h2,h3⟩:=hz
 have hab:∀ s ∈ [a,b],s.length=p.length∧okK 30 s:=fun s hs=>by
  simp at hs;rcases hs with rfl | rfl
  ·exact ⟨ha,oa⟩
  ·exact ⟨hb,ob⟩
 have su:=xK (n:=p.length) (l:=[a,b]) (fs:=[(1,1),(-1,1)]) (Ks:=30) (Kk:=1) (by omega) (by simp) rfl (by decide) (by simp) hab HV;have oK:okK 65 (dfS p a b):=wY (Ks:=30) (Kk:=1) (Ko:=1) (tu _) (fun s hs=>(hab s hs).2) HV
 have hl:(dfS p a b).length=p.length:=by
  unfold dfS j8;rw [mW (fun s hs=>by simpa using (hab s hs).1)];simp
 have to_:=mV (p:=p) (s:=dfS p a b) (K:=65) (by omega) hl.symm oK (by omega) (by decide);have si:=DR (d:=fH 1 (dfS p a b)) h1 h2 h3;have l1:∀ H,dk 2 [D.pl (Value.slice none 0 0)] [(0,szV a),(1,szV b)] H=some ([szD a,szD b],H):=fun H=>JI ..
 have l2:∀ H,dk 2 [D.str [],D.str []] [(0,.agg (qT (1,1))),(1,.agg (qT (-1,1)))] H=some (aJ (tx (1,1))++aJ (tx (-1,1)),H):=fun H=>LR (1,1) (-1,1) H
 have l3:am (lst di p)=some (I p.length):=rfl;simp (disch:=first|omega|simp<;>omega|fail)[jN,l1,l3];refine cd (fi (z:=1) (by omega) (by omega)) ?_;simp (disch:=first|omega|simp<;>omega|fail)[];refine cd (fi (z:=-1) (by omega) (by omega)) ?_;simp (disch:=first|omega|simp<;>omega|fail)[l2];refine cd (v:=szV (dfS p a b)) su ?_ (by simp [ae,aA,norm])
 simp (disch:=first|omega|simp<;>omega|fail)[];refine cd to_ ?_ (by simp [ae,szV,dI]);simp (disch:=first|omega|simp<;>omega|fail)[];refine cd si ?_ (by simp [ae,aA,tmV]);simp (disch:=first|omega|simp<;>omega|fail)[]
theorem Hk {p:List Int} {a b:List Q} {z:Int} (hp:pcB p=0) (hN:p.length<1000) (ha:a.length=p.length) (hb:b.length=p.length) (oa:okS a) (ob:okS b) (hz:wC p (dfS p a b) z):CP Y F.jO [lst di p,szV a,szV b] (.tup [I z,I 0]):=by
 refine xU ?_
 have ca:=qX (p:=p) (l:=[a,b]) (by omega) (by simp) (fun s hs=>by
  simp at hs;rcases hs with rfl | rfl
  ·exact ⟨oa,by omega⟩
  ·exact ⟨ob,by omega⟩)
 rw [if_pos hp,xt (n:=p.length) (l:=[a,b]) fun s hs=>by
  simp at hs;rcases hs with rfl | rfl
  ·exact ha
  ·exact hb] at ca
 have co:=G1 hN ha hb oa ob hz;have l1:∀ H,dk 2 [D.pl (Value.slice none 0 0)] [(0,szV a),(1,szV b)] H=some ([szD a,szD b],H):=fun H=>JI ..
 simp (disch:=first|omega|simp<;>omega|fail)[jO,l1];refine cd (v:=I 0) ca ?_ (by simp [ae,aA,norm]);simp (disch:=first|omega|simp<;>omega|fail)[];refine cd co ?_ (by simp [ae,szV,dI]);exact ai rfl rfl
def uN (z:Int):Int:=max z (-z)*(2*max z 0-1)
def Nt (p:List Int) (s:List Q) (z:Int):List Q:=j8 p.length [s] [(uN z,1)]
theorem Ro {p:List Int} {s:List Q} {z:Int} (hp:pcB p=0) (hN:p.length<1000) (hl:s.length=p.length) (hs:okS s) (hz:wC p s z) (h1 : -1<=z) (h2:z<=1):CP Y F.ou [lst di p,szV s] (.tup [szV (Nt p s z),I 0]):=by
 refine Ga ?_;have si:=Pq hp (by omega) hl hs hz
 have hk:uN z=z:=by
  rcases (show z = -1∨z=0∨z=1 by omega) with rfl | rfl | rfl <;> rfl
 have hkk:okK 1 [(uN z,1)]:=fun x hx=>by
  simp at hx;subst hx;exact ⟨⟨by simp,by simp⟩,a6 (by rw [hk];omega) (by decide),a6 (by simp) (by decide)⟩
 have su:=xK (n:=p.length) (l:=[s]) (fs:=[(uN z,1)]) (Ks:=30) (Kk:=1) (by omega) (by simp) rfl (by decide) (by simp) (fun t ht=>by
  simp at ht;subst ht;exact ⟨hl,hs⟩) hkk
 have su':CP Y F.jv [I p.length,lst szD [s],szV [(uN z,1)]] (szV (Nt p s z)):=su;have l1:∀ H,dk 1 [D.pl (Value.slice none 0 0)] [(0,szV s)] H=some ([szD s],H):=fun H=>JJ ..
 have l2:∀ H,dk 1 [D.str [],D.str []] [(0,.agg (qT (uN z,1)))] H=some (aJ (tx (uN z,1)),H):=fun H=>H9 (uN z,1) H
 have l3:am (lst di p)=some (I p.length):=rfl;have m1:mxI true [I z,I (-z)]=some (I (max z (-z))):=by simp only [mxI,GA]
 have m2:mxI true [I z,I 0]=some (I (max z 0)):=by simp only [mxI,GA]
 have n1:biI .mul (.d (.int .i64 2)) (I (max z 0))=some (I (2*max z 0)):=by rw [kq,wrap_i64 ⟨by omega,by omega⟩]
 have n2:biI .sub (I (2*max z 0)) (.d (.int .i64 1))=some (I (2*max z 0-1)):=by rw [pF,wrap_i64 ⟨by omega,by omega⟩]
 have n3:biI .mul (I (max z (-z))) (I (2*max z 0-1))=some (I (uN z)):=by
  rw [kq,wrap_i64 (by rw [show max z (-z)*(2*max z 0-1)=uN z from rfl,hk];omega)];rfl
 have nb:=fi (z:=uN z) (by rw [hk];omega) (by rw [hk];omega)
 have neg:unV .neg (I z)=some (I (-z)):=by
  rcases (show z = -1∨z=0∨z=1 by omega) with rfl | rfl | rfl <;> rfl
 simp (disch:=first|omega|simp<;>omega|fail)[ou];refine cd si ?_ (by simp [ae,szV,dI]);clear su;generalize uN z=az at *;generalize max z (-z)=a1 at *;generalize max z 0=a2 at *;generalize 2*a2-1=a4 at *;simp (disch:=first|omega|simp<;>omega|fail)[l1,l3,neg,m1,m2,n1,n2,n3];refine cd nb ?_;simp (disch:=first|omega|simp<;>omega|fail)[l2]
 refine cd (v:=szV (Nt p s z)) su' ?_ (by simp [ae,aA,norm]);exact ai (nE _ _) rfl
theorem wg {a b:Int} (hb:0<b) (ha1 : -4000000000000000000<=a) (ha2:a<=4000000000000000000) (hb2:b<=4000000000000000000):CP Y F.dJ [I a,I b] (I (a / b)):=by
 refine wA ?_;by_cases h:a<0
 ·have n1:unV .neg (I a)=some (I (-a)):=by rw [rj,wrap_i64 ⟨by omega,by omega⟩]
  have n2:biI .add (I (-a)) (I b)=some (I (-a+b)):=by rw [rQ,wrap_i64 ⟨by omega,by omega⟩]
  have n3:biI .sub (I (-a+b)) (.d (.int .i64 1))=some (I (-a+b-1)):=by rw [pF,wrap_i64 ⟨by omega,by omega⟩]
  have hq0:0<=(-a+b-1) / b:=Int.ediv_nonneg (by omega) (by omega);have hq1:(-a+b-1) / b<=-a+b-1:=Int.ediv_le_self _ (by omega)
  have e : -((-a+b-1) / b)=a / b:=by
   have h1:=Int.emod_add_mul_ediv (-a+b-1) b;have h2:=Int.emod_nonneg (-a+b-1) (by omega:b≠0);have h3:=Int.emod_lt_of_pos (-a+b-1) hb;symm;rw [Int.ediv_eq_iff_of_pos hb];generalize (-a+b-1) / b=q at *;generalize (-a+b-1) % b=r at *;have : -q*b = -(b*q):=by rw [Wq,Yg]
   rw [this];omega
  obtain ⟨w,hw⟩:∃ w,w = -a+b-1:=⟨_,rfl⟩;rw [<- hw] at n3 hq0 hq1 e;have td:w.tdiv b=w / b:=Zv (by omega);obtain ⟨q,hq⟩:∃ q,q=w / b:=⟨_,rfl⟩;rw [<- hq] at hq0 hq1 e td;have n5:unV .neg (I q)=some (I (-q)):=by rw [rj,wrap_i64 ⟨by omega,by omega⟩]
  have n4:biI .quo (I w) (I b)=some (I q):=by rw [II (by omega),td,wrap_i64 ⟨by omega,by omega⟩]
  simp (disch:=first|omega|simp<;>omega|fail)[dJ,h,n1,n2,n3,n4,n5];exact bH e
 ·have td:a.tdiv b=a / b:=Zv (by omega);have hq0:0<=a / b:=Int.ediv_nonneg (by omega) (by omega);have hq1:a / b<=a:=Int.ediv_le_self _ (by omega);have n4:biI .quo (I a) (I b)=some (I (a / b)):=by rw [II (by omega),td,wrap_i64 ⟨by omega,by omega⟩]
  simp (disch:=first|omega|simp<;>omega|fail)[dJ,h,n4] <;> exact bH rfl
def yg (x y:Int × Int) (d g:Int):Option Int:=
 let z:(Int × Int) × (Int × Int):=if y.2<=0 then ((-x.2,-x.1),(-y.2,-y.1)) else (x,y)
 if z.2.1<=0 then none else
  let low:=if z.1.1<0 then z.2.1 else z.2.2
  let high:=if z.1.2<0 then z.2.2 else z.2.1
  if z.1.1*g / (low*d)=z.1.2*g / (high*d) then some (z.1.1*g / (low*d)) else none
def BY (tx ty:List (Int × Int)) (d g:Nat):Option Int:=match gm 100000 tx (0,0),gm 100000 ty (0,0) with
 | some x,some y=>if 10000<d∨10000<g then none else yg x y d g
 | _,_=>none
theorem A0 {p a:Nat} (hp:2<=p) (hp2:p<128) (h:sk p=some a):a<469762048:=by
 obtain ⟨hk0,hpk,hk1⟩:=kR (n:=p) (by omega)
 have hk20:aY p<=7:=by
  have:2 ^ (aY p-1)<2 ^ 7:=by omega
  have:=(Y5 (by decide:1<2)).1 this;omega
 have:=rM _ _ _ _ _ h;have h2:(aY p-1+1)*2 ^ 26<=7*2 ^ 26:=Z1 _ (by omega);omega
theorem vj {most:Int} (hm0:0<=most):∀ (ts:List (Int × Int)) (lo hi C:Int) (a:Int × Int),(∀ t∈ts,2<=t.1∧t.1<128)->lo<=hi->-C<=lo->hi<=C->gm most ts (lo,hi)=some a ->
  a.1<=a.2∧-(C+ts.length*(most*469762049))<=a.1∧a.2<=C+ts.length*(most*469762049)
 | [],lo,hi,C,a,hl,h1,h2,h3,ha=>by
  simp only [gm,Z9] at ha;subst ha;simp;omega
 | t::ts,lo,hi,C,a,hl,h1,h2,h3,ha=>by
  obtain ⟨l1,l2⟩:=hl t (by simp);simp only [gm] at ha;split at ha
  ·cases ha
  ·rename_i hc;split at ha
   ·cases ha
   ·rename_i f hf;have hflt:=A0 (p:=t.1.toNat) (by omega) (by omega) hf;obtain ⟨b,hb'⟩:∃ b:Int,b=(if t.1=2 then (f:Int) else f+1):=⟨_,rfl⟩;rw [<- hb'] at ha;have hbb:(f:Int)<=b∧b<=f+1:=by subst hb';split <;> omega
    have bd:∀ z:Int,0<=z->z<=469762049->-(most*469762049)<=t.2*z∧t.2*z<=most*469762049:=by
     intro z hz0 hz;have a1:t.2*z<=most*z:=Zp (by omega) hz0;have a2:(-most)*z<=t.2*z:=Zp (by omega) hz0;have a3:most*z<=most*469762049:=Ys hz hm0;rw [Wq] at a2;omega
    have bx:=bd f (by omega) (by omega);have by_:=bd b (by omega) (by omega);have:=vj hm0 ts _ _ (C+most*469762049) a (fun t ht=>hl t (by simp [ht])) (by omega) (by omega) (by omega) ha
    have e:((t::ts).length:Int)*(most*469762049)=most*469762049+ts.length*(most*469762049):=by
     rw [List.length_cons,Int.natCast_add,Wp];omega
    rw [e];omega
def Gu (ts:List (Int × Int)):Prop:=ts.length<=8∧∀ t∈ts,2<=t.1∧t.1<128∧t.2.natAbs<9223372036854775808
theorem Qw (r:Option (Int × Int)):neV r=.tup [I (r.getD (0,0)).1,I (r.getD (0,0)).2,B r.isSome]:=by cases r <;> rfl
def Jq (x y:Int × Int) (d g:Int):Int × Bool:=
 let z:(Int × Int) × (Int × Int):=if y.2<=0 then ((-x.2,-x.1),(-y.2,-y.1)) else (x,y)
 if z.2.1<=0 then (0,false) else
  let low:=if z.1.1<0 then z.2.1 else z.2.2
  let high:=if z.1.2<0 then z.2.2 else z.2.1
  (z.1.1*g / (low*d),decide (z.1.1*g / (low*d)=z.1.2*g / (high*d)))
theorem Gk (x y:Int × Int) (d g:Int):yg x y d g=if (Jq x y d g).2=true then some (Jq x y d g).1 else none:=by
 unfold yg Jq;simp only;generalize (if y.2<=0 then ((-x.2,-x.1),(-y.2,-y.1)) else (x,y))=z;by_cases h:z.2.1<=0
 ·simp [h]
 ·simp only [if_neg h,decide_eq_true_eq]
def sO (X1 X2 Y1 Y2 d g:Int):Int × Bool:=if Y1<=0 then (0,false) else
 (X1*g / ((if X1<0 then Y1 else Y2)*d),decide (X1*g / ((if X1<0 then Y1 else Y2)*d)=X2*g / ((if X2<0 then Y2 else Y1)*d)))
theorem Lf (x y:Int × Int) (d g:Int):Jq x y d g=if y.2<=0 then sO (-x.2) (-x.1) (-y.2) (-y.1) d g else sO x.1 x.2 y.1 y.2 d g:=by
 unfold Jq;by_cases h:y.2<=0
 ·simp only [if_pos h];rfl
 ·simp only [if_neg h];rfl
theorem Oh {X g:Int} (h1 : -400000000000000<=X) (h2:X<=400000000000000) (g0:0<g) (g1:g<=10000) : -4000000000000000000<=X*g∧X*g<=4000000000000000000:=by
 have a1:X*g<=400000000000000*g:=Zp h2 (by omega);have a2:(-400000000000000)*g<=X*g:=Zp h1 (by omega);omega
theorem Ef {X1 X2 Y1 Y2 d g:Int} (h:Hp) (x1 : -400000000000000<=X1) (x2:X1<=400000000000000) (x3 : -400000000000000<=X2) (x4:X2<=400000000000000) (y0:Y1<=Y2) (y1 : -400000000000000<=Y1) (y2:Y2<=400000000000000)
  (d0:0<d) (d1:d<=10000) (g0:0<g) (g1:g<=10000) (q:V->Hp->Prop) (hq:q (.tup [I (sO X1 X2 Y1 Y2 d g).1,B (sO X1 X2 Y1 Y2 d g).2]) h) :
  bnd (biI .leq (I Y1) (.d (.int .i64 0))) fun v42=>
   cnd v42 (
    q (.tup [(.d (.int .i64 0)),(.d (.bool false))]) h) (
    bnd (biI .lss (I X1) (.d (.int .i64 0))) fun v43=>
    jn (fun l44 h=>
     bnd (biI .lss (I X2) (.d (.int .i64 0))) fun v46=>
     jn (fun l47 h=>
      bnd (biI .mul (I X1) (I g)) fun v49=>
      bnd (biI .mul (ge l44 0) (I d)) fun v50=>
      cal (CX Y).p h (.fn F.dJ [] []) [v49,v50] fun v51 h=>
      bnd (biI .mul (I X2) (I g)) fun v52=>
      bnd (biI .mul (ge l47 0) (I d)) fun v53=>
      cal (CX Y).p h (.fn F.dJ [] []) [v52,v53] fun v54 h=>
      bnd (biI .eql v51 v54) fun v55=>
      q (.tup [v51,v55]) h) fun q48=>
      cnd v46 (
       q48 [I Y2] h) (
       q48 [I Y1] h)) fun q45=>
     cnd v43 (
      q45 [I Y1] h) (
      q45 [I Y2] h)):=by
 unfold sO at hq;by_cases c:Y1<=0
 ·rw [if_pos c] at hq;simp (disch:=first|omega|simp<;>omega|fail)[c];exact hq
 ·rw [if_neg c] at hq;obtain ⟨lo,hlo⟩:∃ z,z=(if X1<0 then Y1 else Y2):=⟨_,rfl⟩;obtain ⟨hi,hhi⟩:∃ z,z=(if X2<0 then Y2 else Y1):=⟨_,rfl⟩;rw [<- hlo,<- hhi] at hq;have l1:0<lo∧lo<=400000000000000:=by subst hlo;split <;> omega
  have l2:0<hi∧hi<=400000000000000:=by subst hhi;split <;> omega
  have p1:=Oh x1 x2 g0 g1;have p2:=Oh (X:=lo) (by omega) (by omega) d0 d1;have p3:=Oh x3 x4 g0 g1;have p4:=Oh (X:=hi) (by omega) (by omega) d0 d1;have z1:0<lo*d:=Xb l1.1 d0;have z2:0<hi*d:=Xb l2.1 d0;have w1:=wg (a:=X1*g) (b:=lo*d) z1 p1.1 p1.2 p2.2;have w2:=wg (a:=X2*g) (b:=hi*d) z2 p3.1 p3.2 p4.2
  have m1:biI .mul (I X1) (I g)=some (I (X1*g)):=by rw [kq,wrap_i64 ⟨by omega,by omega⟩]
  have m2:biI .mul (I lo) (I d)=some (I (lo*d)):=by rw [kq,wrap_i64 ⟨by omega,by omega⟩]
  have m3:biI .mul (I X2) (I g)=some (I (X2*g)):=by rw [kq,wrap_i64 ⟨by omega,by omega⟩]
  have m4:biI .mul (I hi) (I d)=some (I (hi*d)):=by rw [kq,wrap_i64 ⟨by omega,by omega⟩]
  generalize X1*g / (lo*d)=r1 at *;generalize X2*g / (hi*d)=r2 at *;generalize X1*g=u1 at *;generalize X2*g=u2 at *;generalize lo*d=v1 at *;generalize hi*d=v2 at *;simp (disch:=first|omega|simp<;>omega|fail)[c];refine eU (l:=[I lo]) (h:=h) (fun q=>?_) ?_
  ·by_cases c1:X1<0
   ·rw [decide_eq_true c1,hlo,if_pos c1];rfl
   ·rw [decide_eq_false c1,hlo,if_neg c1];rfl
  ·simp (disch:=first|omega|simp<;>omega|fail)[];refine eU (l:=[I hi]) (h:=h) (fun q=>?_) ?_
   ·by_cases c1:X2<0
    ·rw [decide_eq_true c1,hhi,if_pos c1];rfl
    ·rw [decide_eq_false c1,hhi,if_neg c1];rfl
   ·simp (disch:=first|omega|simp<;>omega|fail)[m1,m2];refine cd w1 ?_;simp (disch:=first|omega|simp<;>omega|fail)[m3,m4];refine cd w2 ?_;simp (disch:=first|omega|simp<;>omega|fail)[];exact hq
theorem Ee {tx ty:List (Int × Int)} {d g:Nat} (hx:Gu tx) (hy:Gu ty) (hd:d<9223372036854775808) (hg:g<9223372036854775808) (hd0:0<d) (hg0:0<g) :
  ∃ (q:Int) (b:Bool),CP Y F.cZ [tmV tx d,tmV ty g] (.tup [I q,B b])∧(b=true->BY tx ty d g=some q)∧(b=false->BY tx ty d g=none):=by
 have nx:=xG (d:=d) (most:=100000) (by decide) (by decide) (fun t ht=>⟨(hx.2 t ht).1,by have:=(hx.2 t ht).2.1;omega,(hx.2 t ht).2.2⟩) (by have:=hx.1;omega);have ny:=xG (d:=g) (most:=100000) (by decide) (by decide) (fun t ht=>⟨(hy.2 t ht).1,by have:=(hy.2 t ht).2.1;omega,(hy.2 t ht).2.2⟩) (by have:=hy.1;omega);have sd:=u0 (z:=(d:Int)) (by omega)
 have sg:=u0 (z:=(g:Int)) (by omega);rw [bW] at sd sg;rw [Qw] at nx ny;have bx:=fun a=>vj (most:=100000) (by decide) tx 0 0 0 a (fun t ht=>⟨(hx.2 t ht).1,(hx.2 t ht).2.1⟩) (by omega) (by omega) (by omega)
 have by_:=fun a=>vj (most:=100000) (by decide) ty 0 0 0 a (fun t ht=>⟨(hy.2 t ht).1,(hy.2 t ht).2.1⟩) (by omega) (by omega) (by omega)
 have lx:=hx.1;have ly:=hy.1;unfold BY;generalize gm 100000 tx (0,0)=rx at *;generalize gm 100000 ty (0,0)=ry at *;obtain ⟨xl,hxl⟩:∃ z,z=(rx.getD (0,0)).1:=⟨_,rfl⟩;obtain ⟨xh,hxh⟩:∃ z,z=(rx.getD (0,0)).2:=⟨_,rfl⟩;obtain ⟨yl,hyl⟩:∃ z,z=(ry.getD (0,0)).1:=⟨_,rfl⟩;obtain ⟨yh,hyh⟩:∃ z,z=(ry.getD (0,0)).2:=⟨_,rfl⟩;obtain ⟨one,h1⟩:∃ z,z=rx.isSome:=⟨_,rfl⟩
 obtain ⟨two,h2⟩:∃ z,z=ry.isSome:=⟨_,rfl⟩;rw [<- hxl,<- hxh,<- h1] at nx;rw [<- hyl,<- hyh,<- h2] at ny;have nx':CP Y F.bU [.agg [.d (.sl tx.length (tx.map tmP)),.d (.sl tx.length (tx.map tmK)),S (aa d)],I 100000] (.tup [I xl,I xh,B one]):=nx
 have ny':CP Y F.bU [.agg [.d (.sl ty.length (ty.map tmP)),.d (.sl ty.length (ty.map tmK)),S (aa g)],I 100000] (.tup [I yl,I yh,B two]):=ny;have walk:∀ v:V,(cZ (CX Y) (tmV tx d) (tmV ty g) (out v))->CP Y F.cZ [tmV tx d,tmV ty g] v:=fun v h=>wy h
 have e10:(10000:Int)<(d:Int)↔10000<d:=by omega
 have e11:(10000:Int)<(g:Int)↔10000<g:=by omega
 by_cases hc:one=true∧two=true∧¬ (10000:Int)<d∧¬ (10000:Int)<g
 ·obtain ⟨c1,c2,c3,c4⟩:=hc;subst c1;subst c2;obtain ⟨x,rfl⟩:=Xw.1 h1.symm;obtain ⟨y,rfl⟩:=Xw.1 h2.symm;have bx:=bx x rfl;have by_:=by_ y rfl;simp only [Option.getD_some] at hxl hxh hyl hyh;simp only [if_neg (show ¬ (10000<d∨10000<g) by omega)];obtain ⟨r,hr⟩:∃ r,r=Jq x y d g:=⟨_,rfl⟩;refine ⟨r.1,r.2,walk _ ?_,fun h=>?_,fun h=>?_⟩
  ·simp (disch:=first|omega|simp<;>omega|fail)[cZ,tmV];refine cd nx' ?_ (by simp [ae,aA]);simp (disch:=first|omega|simp<;>omega|fail)[];refine cd ny' ?_ (by simp [ae,aA]);simp (disch:=first|omega|simp<;>omega|fail)[];refine cd sd ?_ (by simp [ae,aA]);simp (disch:=first|omega|simp<;>omega|fail)[];refine cd sg ?_ (by simp [ae,aA])
   simp (disch:=first|omega|simp<;>omega|fail)[c3,c4];rw [Lf] at hr;by_cases c5:yh<=0
   ·rw [if_pos (by omega)] at hr;have n1:unV .neg (I xh)=some (I (-xh)):=by rw [rj,wrap_i64 ⟨by omega,by omega⟩]
    have n2:unV .neg (I xl)=some (I (-xl)):=by rw [rj,wrap_i64 ⟨by omega,by omega⟩]
    have n3:unV .neg (I yh)=some (I (-yh)):=by rw [rj,wrap_i64 ⟨by omega,by omega⟩]
    have n4:unV .neg (I yl)=some (I (-yl)):=by rw [rj,wrap_i64 ⟨by omega,by omega⟩]
    have rs:=fun h=>Ef (X1:=-xh) (X2:=-xl) (Y1:=-yh) (Y2:=-yl) (d:=d) (g:=g) h (by omega) (by omega) (by omega) (by omega) (by omega) (by omega) (by omega) (by omega) (by omega) (by omega) (by omega) (out (.tup [I r.1,B r.2])) (by
     rw [hr,hxl,hxh,hyl,hyh];exact ai rfl rfl)
    rw [decide_eq_true c5];refine bC ?_;refine Eq.mpr (IA _ _) ?_;rw [n1,n2,n3,n4];exact rs _
   ·rw [if_neg (by omega)] at hr
    have rs:=fun h=>Ef (X1:=xl) (X2:=xh) (Y1:=yl) (Y2:=yh) (d:=d) (g:=g) h (by omega) (by omega) (by omega) (by omega) (by omega) (by omega) (by omega) (by omega) (by omega) (by omega) (by omega) (out (.tup [I r.1,B r.2])) (by
     rw [hr,hxl,hxh,hyl,hyh];exact ai rfl rfl)
    rw [decide_eq_false c5];refine bC ?_;refine Eq.mpr (IB _ _) ?_;exact rs _
  ·rw [Gk,<- hr,h];rfl
  ·rw [Gk,<- hr,h];rfl
 ·refine ⟨0,false,walk _ ?_,fun h=>(by cases h),fun _=>?_⟩
  ·simp (disch:=first|omega|simp<;>omega|fail)[cZ,tmV];refine cd nx' ?_ (by simp [ae,aA]);simp (disch:=first|omega|simp<;>omega|fail)[];refine cd ny' ?_ (by simp [ae,aA]);simp (disch:=first|omega|simp<;>omega|fail)[];refine cd sd ?_ (by simp [ae,aA]);simp (disch:=first|omega|simp<;>omega|fail)[];refine cd sg ?_ (by simp [ae,aA]);cases one with
   | false=>
    simp (disch:=first|omega|simp<;>omega|fail)[];exact ai rfl rfl
   | true=>
    cases two with
    | false=>
     simp (disch:=first|omega|simp<;>omega|fail)[];exact ai rfl rfl
    | true=>
     by_cases c3:(10000:Int)<d
     ·simp (disch:=first|omega|simp<;>omega|fail)[c3];exact ai rfl rfl
     ·by_cases c4:(10000:Int)<g
      ·simp (disch:=first|omega|simp<;>omega|fail)[c3,c4];exact ai rfl rfl
      ·exact absurd ⟨rfl,rfl,c3,c4⟩ hc
  ·cases rx with
   | none=>rfl
   | some x=>
    cases ry with
    | none=>rfl
    | some y=>
     have:10000<d∨10000<g:=by
      by_cases c3:(10000:Int)<d
      ·exact .inl (by omega)
      ·by_cases c4:(10000:Int)<g
       ·exact .inr (by omega)
       ·exact absurd ⟨h1,h2,c3,c4⟩ hc
     simp only [if_pos this]
def gM:Q->List Q->List Q->Q
 | k,x::a,y::b=>gM (if y.1=0 then k else wD x y) a b
 | k,_,_=>k
def jq (k:Q):List Q->List Q->Bool
 | x::a,y::b=>decide (kN k y=x) && jq k a b
 | _,_=>true
def raH (x0:Bk) (e0:Nat) (k:Tx):Hp:=[(e0,x0),(1,.vars [S k.1,S k.2]),(0,.none),(0,.none)]
theorem H3 {n d:Int} (h:d≠0):okQ (nD n d):=by
 unfold nD;split <;> exact tY _ (by omega)
theorem QC {n d:Int} {K:Nat} (h1:ndg n.natAbs<=K) (h2:ndg d.natAbs<=K):qL K (nD n d):=by
 unfold nD;split
 ·exact Ci (by rwa [X8]) h2
 ·exact Ci h1 h2
theorem Ql {a b:Q} {K L:Nat} (ha:qL K a) (hb:qL L b):qL (K+L) (wD a b):=by
 refine QC ?_ ?_
 ·have:=cD (z:=a.1) (w:=(b.2:Int));rw [Int.natAbs_natCast] at this;have:=ha.1;have:=hb.2;omega
 ·have:=cD (z:=(a.2:Int)) (w:=b.1);rw [Int.natAbs_natCast] at this;have:=ha.2;have:=hb.1;omega
theorem NU {a b:Q} (ha:okQ a) (hb:b.1≠0):okQ (wD a b):=H3 (W4 (by have:=ha.1;omega) hb)
theorem Ld {a b:List Q} {K:Nat} (hK:K<=40000) (hN:b.length<1000000) (hab:a.length=b.length) (ha:okK K a) (hb:okK K b) (k:KL) (k0:Tx) (e0:Nat) (x0:Bk) (hx0:offB [2] x0=true):∀ (qb pb qa pa:List Q) (c:Q),pb++qb=b->pa++qa=a->pa.length=pb.length->qa.length=qb.length ->
  k (.exit 0) [] (raH x0 e0 (tx (gM c qa qb))) ->
  lp (j9 (CX Y) (szV a) (.ptr 1 1 0 2) (szV b) (I b.length)) [2] (raH x0 e0 k0) [I pb.length] (raH x0 e0 (tx c)) k
 | [],pb,qa,pa,c,h1,h2,h3,h4,hk=>by
  simp at h1;subst h1;have:qa=[]:=Zl h4;subst this;refine aj ?_;simp (disch:=first|omega|simp<;>omega|fail)[j9];exact hk
 | y::qb,pb,[],pa,c,h1,h2,h3,h4,hk=>by simp at h4
 | y::qb,pb,x::qa,pa,c,h1,h2,h3,h4,hk=>by
  have hal:pb.length<b.length:=by subst h1;simp
  have hal2:pb.length<a.length:=by omega
  obtain ⟨y1,y2⟩:=hb y (by subst h1;simp);obtain ⟨x1,x2⟩:=ha x (by subst h2;simp);have hy:nth ([],[]) (b.map tx) pb.length=tx y:=by subst h1;exact jD ..
  have hx:nth ([],[]) (a.map tx) pb.length=tx x:=by subst h2;rw [<- h3];exact jD ..
  have i1:=fun h:Hp=>jS aJ aG (b.map tx) h (k:=.i64) (i:=(pb.length:Int)) (by omega) (by simp;omega)
  have i2:=fun h:Hp=>jR aJ aG ([],[]) (b.map tx) h (j:=pb.length) (by simpa using hal)
  have j1:=fun h:Hp=>jS aJ aG (a.map tx) h (k:=.i64) (i:=(pb.length:Int)) (by omega) (by simp;omega)
  have j2:=fun h:Hp=>jR aJ aG ([],[]) (a.map tx) h (j:=pb.length) (by simpa using hal2)
  simp only [hx,hy,Int.toNat_natCast,aJ,Zw,Y7] at i1 i2 j1 j2;have g1:(pb.length:Int)<(b.length:Int):=by omega
  refine aj ?_;by_cases hz:y.1=0
  ·have hz2:(!(tx y).1 == [48])=false:=by simp [lT.2 hz,tx]
   have ih:=Ld hK hN hab ha hb k k0 e0 x0 hx0 qb (pb++[y]) qa (pa++[x]) c (by simpa using h1) (by simpa using h2) (by simp [h3]) (by simpa using h4) (by simpa [gM,hz] using hk);simp only [raH] at ih;simp (disch:=first|omega|simp<;>omega|fail)[j9,szV,i1,i2,g1,raH];refine bC ?_;simp (disch:=first|omega|simp<;>omega|fail)[i1,i2,hz2];refine bC ?_;refine Eq.mpr (IB _ _) ?_
   simp (disch:=first|omega|simp<;>omega|fail)[clean,eC,ji,mt,mr,r8,Ey,dw,tK,tJ,nbq,hx0];simpa [szV] using ih
  ·have hz2:(!(tx y).1 == [48])=true:=by
    have:(tx y).1≠[48]:=fun e=>hz (lT.1 e)
    simp [this]
   have dv:=Mk x1 y1 hz (x2.mono (by omega)) (y2.mono (by omega));have dv':CP Y F.iH [.agg [S (tx x).1,S (tx x).2],.agg [S (tx y).1,S (tx y).2]] (.tup [.agg [S (tx (wD x y)).1,S (tx (wD x y)).2],I 0]):=dv
   have ih:=Ld hK hN hab ha hb k k0 e0 x0 hx0 qb (pb++[y]) qa (pa++[x]) (wD x y) (by simpa using h1) (by simpa using h2) (by simp [h3]) (by simpa using h4) (by simpa [gM,hz] using hk);simp only [raH] at ih;simp (disch:=first|omega|simp<;>omega|fail)[j9,szV,i1,i2,g1,raH];refine bC ?_;simp (disch:=first|omega|simp<;>omega|fail)[i1,i2,hz2];refine bC ?_
   refine Eq.mpr (IA _ _) ?_;simp (disch:=first|omega|simp<;>omega|fail)[j1,j2];refine cd dv' ?_ (by simp [ae,aA]);simp (disch:=first|omega|simp<;>omega|fail)[clean,eC,ji,mt,mr,r8,Ey,dw,tK,tJ,nbq,hx0];simpa [szV] using ih
theorem w5 {K L:Nat}:∀ {a b:List Q} {k:Q},okK K a->okK K b->okQ k->qL L k->K+K<=L->okQ (gM k a b)∧qL L (gM k a b)
 | [],b,k,_,_,h1,h2,_=>⟨h1,h2⟩
 | x::a,[],k,_,_,h1,h2,_=>⟨h1,h2⟩
 | x::a,y::b,k,ha,hb,h1,h2,hL=>by
  simp only [gM];have ha':okK K a:=fun z hz=>ha z (by simp [hz])
  have hb':okK K b:=fun z hz=>hb z (by simp [hz])
  obtain ⟨x1,x2⟩:=ha x (by simp);obtain ⟨y1,y2⟩:=hb y (by simp);split
  ·exact w5 ha' hb' h1 h2 hL
  ·rename_i hz;exact w5 ha' hb' (NU x1 hz) ((Ql x2 y2).mono hL) hL
theorem PE {a b:List Q} {K L:Nat} (hK:K<=40000) (hL:L<=90000) (hN:b.length<1000000) (hab:a.length=b.length) (ha:okK K a) (hb:okK K b) {c:Q} (hc:okQ c) (lc:qL L c) (k:KL):∀ (qb pb qa pa:List Q),pb++qb=b->pa++qa=a->pa.length=pb.length->qa.length=qb.length ->
  (jq c qa qb=true->k (.exit 2) [] (raH (.vars [S [],S []]) 1 (tx c)))->(jq c qa qb=false->∀ w,k .ret [B false] [(1,.vars [S (tx c).1,S (tx c).2]),(1,.vars [S (tx c).1,S (tx c).2]),(0,.none),w]) ->
  lp (iW (CX Y) (szV a) (.ptr 0 1 0 2) (.ptr 1 1 0 2) (szV b) (I b.length)) [3] (raH (.vars [S [],S []]) 1 (tx c)) [I pb.length] (raH (.vars [S [],S []]) 1 (tx c)) k
 | [],pb,qa,pa,h1,h2,h3,h4,hk,hr=>by
  simp at h1;subst h1;have:qa=[]:=Zl h4;subst this;refine aj ?_;simp (disch:=first|omega|simp<;>omega|fail)[iW];exact hk rfl
 | y::qb,pb,[],pa,h1,h2,h3,h4,hk,hr=>by simp at h4
 | y::qb,pb,x::qa,pa,h1,h2,h3,h4,hk,hr=>by
  have hal:pb.length<b.length:=by subst h1;simp
  have hal2:pb.length<a.length:=by omega
  obtain ⟨y1,y2⟩:=hb y (by subst h1;simp);have hy:nth ([],[]) (b.map tx) pb.length=tx y:=by subst h1;exact jD ..
  have hx:nth ([],[]) (a.map tx) pb.length=tx x:=by subst h2;rw [<- h3];exact jD ..
  have i1:=fun h:Hp=>jS aJ aG (b.map tx) h (k:=.i64) (i:=(pb.length:Int)) (by omega) (by simp;omega)
  have i2:=fun h:Hp=>jR aJ aG ([],[]) (b.map tx) h (j:=pb.length) (by simpa using hal)
  have j1:=fun h:Hp=>jS aJ aG (a.map tx) h (k:=.i64) (i:=(pb.length:Int)) (by omega) (by simp;omega)
  have j2:=fun h:Hp=>jR aJ aG ([],[]) (a.map tx) h (j:=pb.length) (by simpa using hal2)
  simp only [hx,hy,Int.toNat_natCast,aJ,Zw,Y7] at i1 i2 j1 j2;have g1:(pb.length:Int)<(b.length:Int):=by omega
  have mu:=E3 hc y1 (lc.mono (by omega)) (y2.mono (by omega));have mu':CP Y F.fB [.agg [S (tx c).1,S (tx c).2],.agg [S (tx y).1,S (tx y).2]] (.agg [S (tx (kN c y)).1,S (tx (kN c y)).2]):=mu;have ne:=SH (kN c y) x;refine aj ?_;by_cases hq:kN c y=x
  ·have ih:=PE hK hL hN hab ha hb hc lc k qb (pb++[y]) qa (pa++[x]) (by simpa using h1) (by simpa using h2) (by simp [h3]) (by simpa using h4) (fun g=>hk (by simp [jq,hq,g])) (fun g=>hr (by simp [jq,hq,g]));rw [decide_eq_true hq] at ne;simp only [raH] at ih;simp (disch:=first|omega|simp<;>omega|fail)[iW,szV,i1,i2,g1,raH];refine cd mu' ?_ (by simp [ae,aA])
   simp (disch:=first|omega|simp<;>omega|fail)[j1,j2,ne,clean,eC,ji,mt,mr,r8,Ey,dw,tK,tJ,nbq];simpa [szV] using ih
  ·rw [decide_eq_false hq] at ne;simp (disch:=first|omega|simp<;>omega|fail)[iW,szV,i1,i2,g1,raH];refine cd mu' ?_ (by simp [ae,aA]);simp (disch:=first|omega|simp<;>omega|fail)[j1,j2,ne];exact hr (by simp [jq,hq]) _
theorem Lb {a b:List Q} {K:Nat} (hK:K<=40000) (hN:b.length<1000000) (hab:a.length=b.length) (ha:okK K a) (hb:okK K b):CP Y F.ku [szV a,szV b] (.tup [.agg (qT (gM (0,1) a b)),B (jq (gM (0,1) a b) a b)]):=by
 refine BJ ?_;have n0:=fi (z:=0) (by omega) (by omega);have n0':CP Y F.bD [I 0] (.agg [S (tx (0,1)).1,S (tx (0,1)).2]):=n0;have z0:okQ ((0,1):Q):=⟨by decide,by decide⟩;have zl:qL 90000 ((0,1):Q):=⟨Z3 (a6 (d:=1) (by decide) (by decide)) (by decide),Z3 (a6 (d:=1) (by decide) (by decide)) (by decide)⟩
 obtain ⟨c1,c2⟩:=w5 (k:=(0,1)) ha hb z0 zl (by omega);have lb:=rJ b;simp (disch:=first|omega|simp<;>omega|fail)[ku];refine cd n0' ?_;simp (disch:=first|omega|simp<;>omega|fail)[lb]
 have l0:=Ld hK hN hab ha hb (exK [((.exit 0),fun l6 h=>
  bnd (am (szV b)) fun v7=>
  lp (iW (CX Y) (szV a) (.ptr 0 1 0 2) (.ptr 1 1 0 2) (szV b) v7) [3] h [(.d (.int .i64 0))] h (exK [((.exit 2),fun l8 h=>
   bnd (ldA h 2 (.ptr 1 1 0 2)) fun v9=>
   stD h 2 (.ptr 0 1 0 2) v9 fun _ h=>
   bnd (ldA h 2 (.ptr 0 1 0 2)) fun v11=>
   out (.tup [.agg (qT (gM (0,1) a b)),B (jq (gM (0,1) a b) a b)]) (.tup [v11,(.d (.bool true))]) h),
   (.ret,fun l8 h=>
   bnd (ldA h 2 (.ptr 0 1 0 2)) fun v12=>
   out (.tup [.agg (qT (gM (0,1) a b)),B (jq (gM (0,1) a b) a b)]) (.tup [v12,(ge l8 0)]) h)]))]) (tx (0,1)) 1 (.vars [S [],S []]) rfl b [] a [] (0,1) rfl rfl rfl hab (by
   generalize gM (0,1) a b=c at *;simp (disch:=first|omega|simp<;>omega|fail)[lb];refine lo (PE hK (Z7 _) hN hab ha hb c1 c2 _ b [] a [] rfl rfl rfl hab (fun g=>?_) (fun g w=>?_))
   ·simp (disch:=first|omega|simp<;>omega|fail)[raH];rw [g];exact ai (PC _ c) rfl
   ·simp (disch:=first|omega|simp<;>omega|fail)[];rw [g];exact ai (PC _ c) rfl)
 exact l0
theorem Ct {n:Nat}:∀ (ts:List (Int × Int)) (lo hi:Int) (B:Nat),On n ts->(∀ t∈ts,ndg t.2.natAbs<=100000)->101502<=B->ndg lo.natAbs<=B->ndg hi.natAbs<=B ->
  ndg (aQ n ts (lo,hi)).1.natAbs<=B+ts.length∧ndg (aQ n ts (lo,hi)).2.natAbs<=B+ts.length
 | [],lo,hi,B,hl,hk,hB,h1,h2=>by simpa [aQ] using ⟨h1,h2⟩
 | t::ts,lo,hi,B,hl,hk,hB,h1,h2=>by
  obtain ⟨l1,l2,l3,l4⟩:=hl t (by simp);have hk1:=hk t (by simp);generalize hv:lg t.1 n=v at *;have hv1:ndg (v+1)<=1501:=nK l4 (Z3 (a6 (n:=1) (d:=1) (by decide) (by decide)) (by decide))
  have hx:ndg ((v:Int)*t.2).natAbs<=101501:=by
   have:=cD (z:=(v:Int)) (w:=t.2);rw [Int.natAbs_natCast] at this;omega
  have hy0:ndg (((v+1:Nat):Int)*t.2).natAbs<=101501:=by
   have:=cD (z:=((v+1:Nat):Int)) (w:=t.2);rw [Int.natAbs_natCast] at this;omega
  obtain ⟨y,hy⟩:∃ y:Int,y=(if t.1=2 then (v:Int) else v+1):=⟨_,rfl⟩
  have hyb:ndg (y*t.2).natAbs<=101501:=by
   subst hy;split
   ·exact hx
   ·exact hy0
  have e:∀ q:Int × Int,ndg q.1.natAbs<=B+1->ndg q.2.natAbs<=B+1->ndg (aQ n ts q).1.natAbs<=B+(t::ts).length∧ndg (aQ n ts q).2.natAbs<=B+(t::ts).length:=fun q q1 q2=>by
   obtain ⟨qa,qb⟩:=q;have:=Ct (n:=n) ts qa qb (B+1) (fun t ht=>hl t (by simp [ht])) (fun t ht=>hk t (by simp [ht])) (by omega) q1 q2;simp only [List.length_cons];exact ⟨by have:=this.1;omega,by have:=this.2;omega⟩
  simp only [aQ,hv,<- hy];split
  ·exact e _ (jE h1 (Z3 hyb (by omega))) (jE h2 (Z3 hx (by omega)))
  ·exact e _ (jE h1 (Z3 hx (by omega))) (jE h2 (Z3 hyb (by omega)))
def Co (tx ty:List (Int × Int)) (d g:Int):Nat->Nat->Option Int
 | 0,_=>none
 | r+1,n=>match yg (aQ n tx (0,0)) (aQ n ty (0,0)) d g with
  | some q=>some q
  | none=>Co tx ty d g r (n*2)
theorem Qk (x y:Int × Int) (d g:Int):yg x y d g=if (if y.2<=0 then sO (-x.2) (-x.1) (-y.2) (-y.1) d g else sO x.1 x.2 y.1 y.2 d g).2=true then some (if y.2<=0 then sO (-x.2) (-x.1) (-y.2) (-y.1) d g else sO x.1 x.2 y.1 y.2 d g).1 else none:=by
 rw [Gk,Lf]
theorem ET (a b:Int):biS .eql (S (itoa a)) (S (itoa b))=some (B (decide (a=b))):=by
 have:(itoa a == itoa b)=decide (a=b):=by
  rw [Yw];simp only [beq_iff_eq,decide_eq_true_eq];exact ⟨fun h=>ud h,fun h=>by rw [h]⟩
 simp only [biS,xM,this]
theorem E5 {X1 X2 Y1 Y2:Int} {tx ty:List (Int × Int)} {d g:Nat} {M:Nat} (hM:M<=110000) (x1:ndg X1.natAbs<=M) (x2:ndg X2.natAbs<=M) (y1:ndg Y1.natAbs<=M) (y2:ndg Y2.natAbs<=M) (y0:Y1<=Y2) (d0:0<d) (g0:0<g) (hd:ndg d<=100000) (hg:ndg g<=100000)
  (h:Hp) (hh:h=[(1,.vars [S [],S []]),(1,.vars ((tmD tx d).map .d)),(1,.vars ((tmD ty g).map .d))]∨True) (e1:ld1 h (.ptr 2 1 2 3)=some (S (aa g))) (e2:ld1 h (.ptr 1 1 2 3)=some (S (aa d))) (q2:Hp->Prop) (qr:V->Hp->Prop)
  (h1:(sO X1 X2 Y1 Y2 d g).2=false->q2 h) (h2:(sO X1 X2 Y1 Y2 d g).2=true->qr (S (itoa (sO X1 X2 Y1 Y2 d g).1)) h) :
  cal (CX Y).p h (.fn F.aZ [] []) [S (itoa Y1)] fun v16 h=>
   bnd (biI .leq v16 (.d (.int .i64 0))) fun v17=>
   cnd v17 (q2 h) (
    cal (CX Y).p h (.fn F.aZ [] []) [S (itoa X1)] fun v18 h=>
    bnd (biI .lss v18 (.d (.int .i64 0))) fun v19=>
    jn (fun l20 h=>
     cal (CX Y).p h (.fn F.aZ [] []) [S (itoa X2)] fun v22 h=>
     bnd (biI .lss v22 (.d (.int .i64 0))) fun v23=>
     jn (fun l24 h=>
      bnd (faV 2 (.ptr 2 1 0 3)) fun v26=>
      bnd (ld1 h v26) fun v27=>
      cal (CX Y).p h (.fn F.ax [] []) [S (itoa X1),v27] fun v28 h=>
      bnd (faV 2 (.ptr 1 1 0 3)) fun v29=>
      bnd (ld1 h v29) fun v30=>
      cal (CX Y).p h (.fn F.ax [] []) [(ge l20 0),v30] fun v31 h=>
      cal (CX Y).p h (.fn F.aH [] []) [v28,v31] fun v32 h=>
      ext v32 0 fun v33=>
      ext v32 1 fun v34=>
      ext v32 2 fun v35=>
      bnd (faV 2 (.ptr 2 1 0 3)) fun v36=>
      bnd (ld1 h v36) fun v37=>
      cal (CX Y).p h (.fn F.ax [] []) [S (itoa X2),v37] fun v38 h=>
      bnd (faV 2 (.ptr 1 1 0 3)) fun v39=>
      bnd (ld1 h v39) fun v40=>
      cal (CX Y).p h (.fn F.ax [] []) [(ge l24 0),v40] fun v41 h=>
      cal (CX Y).p h (.fn F.aH [] []) [v38,v41] fun v42 h=>
      ext v42 0 fun v43=>
      ext v42 1 fun v44=>
      ext v42 2 fun v45=>
      bnd (biS .eql v33 v43) fun v46=>
      cnd v46 (qr v33 h) (q2 h)) fun q25=>
      cnd v23 (
       q25 [S (itoa Y2)] h) (
       q25 [S (itoa Y1)] h)) fun q21=>
     cnd v19 (
      q21 [S (itoa Y1)] h) (
      q21 [S (itoa Y2)] h)):=by
 have s1:=iO Y1;have s2:=iO X1;have s3:=iO X2;have p1:=sJ Y1;have n2:sgn X1<0↔X1<0:=by unfold sgn;split <;> (try split) <;> omega
 have n3:sgn X2<0↔X2<0:=by unfold sgn;split <;> (try split) <;> omega
 unfold sO at h1 h2;have sn:∀ s:List UInt8,ae h [S s]=some ([S s],h):=fun s=>by simp [ae,aA]
 have sn2:∀ s t:List UInt8,ae h [S s,S t]=some ([S s,S t],h):=fun s t=>by simp [ae,aA]
 by_cases c:Y1<=0
 ·rw [if_pos c] at h1;have c':sgn Y1<=0:=p1.2 c;simp (disch:=first|omega|simp<;>omega|fail)[];refine cd s1 ?_ (sn _);simp (disch:=first|omega|simp<;>omega|fail)[c'];exact h1 rfl
 ·rw [if_neg c] at h1 h2;have c':¬ sgn Y1<=0:=fun x=>c (p1.1 x)
  obtain ⟨lo,hlo⟩:∃ z,z=(if X1<0 then Y1 else Y2):=⟨_,rfl⟩;obtain ⟨hi,hhi⟩:∃ z,z=(if X2<0 then Y2 else Y1):=⟨_,rfl⟩;rw [<- hlo,<- hhi] at h1 h2;have l1:0<lo∧ndg lo.natAbs<=M:=by subst hlo;split <;> exact ⟨by omega,by assumption⟩
  have l2:0<hi∧ndg hi.natAbs<=M:=by subst hhi;split <;> exact ⟨by omega,by assumption⟩
  have mg:∀ z:Int,ndg z.natAbs<=M->∀ w:Nat,ndg w<=100000->CP Y F.ax [S (itoa z),S (aa w)] (S (itoa (z*w)))∧ndg (z*w).natAbs<=300000:=fun z hz w hw=>by
   refine ⟨rc (by omega) (by omega),?_⟩;have:=cD (z:=z) (w:=(w:Int));rw [Int.natAbs_natCast] at this;omega
  obtain ⟨m1,b1⟩:=mg X1 x1 g hg;obtain ⟨m2,b2⟩:=mg lo l1.2 d hd;obtain ⟨m3,b3⟩:=mg X2 x2 g hg;obtain ⟨m4,b4⟩:=mg hi l2.2 d hd;have z1:0<lo*(d:Int):=Xb l1.1 (by omega);have z2:0<hi*(d:Int):=Xb l2.1 (by omega);have w1:=Dh (z:=X1*g) (w:=lo*d) z1 (by omega) (by omega);have w2:=Dh (z:=X2*g) (w:=hi*d) z2 (by omega) (by omega)
  have eq:=ET (X1*g / (lo*d)) (X2*g / (hi*d));generalize X1*(g:Int) / (lo*d)=r1 at *;generalize X2*(g:Int) / (hi*d)=r2 at *;generalize X1*(g:Int) % (lo*d)=r3 at *;generalize X2*(g:Int) % (hi*d)=r4 at *;generalize X1*(g:Int)=u1 at *;generalize X2*(g:Int)=u2 at *;generalize lo*(d:Int)=v1 at *;generalize hi*(d:Int)=v2 at *
  simp (disch:=first|omega|simp<;>omega|fail)[];refine cd s1 ?_ (sn _);simp (disch:=first|omega|simp<;>omega|fail)[c'];refine cd s2 ?_ (sn _);simp (disch:=first|omega|simp<;>omega|fail)[];refine eU (l:=[S (itoa lo)]) (h:=h) (fun q=>?_) ?_
  ·by_cases c1:X1<0
   ·rw [decide_eq_true (n2.2 c1),hlo,if_pos c1];rfl
   ·rw [decide_eq_false (fun x=>c1 (n2.1 x)),hlo,if_neg c1];rfl
  ·simp (disch:=first|omega|simp<;>omega|fail)[];refine cd s3 ?_ (sn _);simp (disch:=first|omega|simp<;>omega|fail)[];refine eU (l:=[S (itoa hi)]) (h:=h) (fun q=>?_) ?_
   ·by_cases c1:X2<0
    ·rw [decide_eq_true (n3.2 c1),hhi,if_pos c1];rfl
    ·rw [decide_eq_false (fun x=>c1 (n3.1 x)),hhi,if_neg c1];rfl
   ·rw [PK] at e1 e2;simp (disch:=first|omega|simp<;>omega|fail)[e1,e2];refine cd m1 ?_ (sn2 _ _);simp (disch:=first|omega|simp<;>omega|fail)[e1,e2];refine cd m2 ?_ (sn2 _ _);simp (disch:=first|omega|simp<;>omega|fail)[];refine cd w1 ?_ (sn2 _ _);simp (disch:=first|omega|simp<;>omega|fail)[e1,e2];refine cd m3 ?_ (sn2 _ _);simp (disch:=first|omega|simp<;>omega|fail)[e1,e2]
    refine cd m4 ?_ (sn2 _ _);simp (disch:=first|omega|simp<;>omega|fail)[];refine cd w2 ?_ (sn2 _ _);by_cases he:r1=r2
    ·rw [decide_eq_true he] at eq h2;simp (disch:=first|omega|simp<;>omega|fail)[eq];exact h2 rfl
    ·rw [decide_eq_false he] at eq h1;simp (disch:=first|omega|simp<;>omega|fail)[eq];exact h1 rfl
theorem L9 {k:List V->Hp->Prop} {T:(List V->Hp->Prop)->Prop} (h:T k):jn k T:=h
def flH (k:Tx) (tx ty:List (Int × Int)) (d g:Nat):Hp:=[(1,.vars [S k.1,S k.2]),(1,.vars ((tmD tx d).map .d)),(1,.vars ((tmD ty g).map .d))]
theorem E6 {k0:Tx} {tx ty:List (Int × Int)} {d g:Nat} (hx:okT tx) (hy:okT ty) (lx:vY tx) (ly:vY ty) (d0:0<d) (g0:0<g) (hd:ndg d<=100000) (hg:ndg g<=100000) (hord:∀ i,i<6->(aQ (64*2 ^ i) ty (0,0)).1<=(aQ (64*2 ^ i) ty (0,0)).2) (k:KL) (h0:Hp) (hh:h0.length=3):∀ (r i:Nat) (s:Int),i+r=6->Co tx ty d g r (64*2 ^ i)=some s->(∀ h,k .ret [S (itoa s)] h) ->
  lp (gX (CX Y) (.ptr 1 1 0 3) (.ptr 2 1 0 3)) [] h0 [I ((64*2 ^ i:Nat):Int)] (flH k0 tx ty d g) k
 | 0,i,s,hi,hs,hk=>by simp [Co] at hs
 | r+1,i,s,hi,hs,hk=>by
  have hn:64*2 ^ i<=3900:=by
   have:2 ^ i<=2 ^ 5:=Z5 (by decide) (by omega);omega
  have ex:=Cs (n:=64*2 ^ i) (d:=d) hn (lx i (by omega)) (tR hx) (by have:=hx.1;omega);have ey:=Cs (n:=64*2 ^ i) (d:=g) hn (ly i (by omega)) (tR hy) (by have:=hy.1;omega);have z1:ndg (0:Int).natAbs<=101502:=Z3 (a6 (d:=1) (by decide) (by decide)) (by decide);have bx:=Ct (n:=64*2 ^ i) tx 0 0 101502 (lx i (by omega)) (tR hx) (Z7 _) z1 z1
  have by_:=Ct (n:=64*2 ^ i) ty 0 0 101502 (ly i (by omega)) (tR hy) (Z7 _) z1 z1;have hor:=hord i (by omega);have hd2:64*2 ^ i*2=64*2 ^ (i+1):=by rw [Nat.pow_succ,<- Nat.mul_assoc]
  have tl:=hx.1;have tl2:=hy.1;have ex':CP Y F.bV [.agg [.d (.sl tx.length (tx.map tmP)),.d (.sl tx.length (tx.map tmK)),S (aa d)],I ((64*2 ^ i:Nat):Int)] (.tup [S (itoa (aQ (64*2 ^ i) tx (0,0)).1),S (itoa (aQ (64*2 ^ i) tx (0,0)).2)]):=ex
  have ey':CP Y F.bV [.agg [.d (.sl ty.length (ty.map tmP)),.d (.sl ty.length (ty.map tmK)),S (aa g)],I ((64*2 ^ i:Nat):Int)] (.tup [S (itoa (aQ (64*2 ^ i) ty (0,0)).1),S (itoa (aQ (64*2 ^ i) ty (0,0)).2)]):=ey;simp only [Co,hd2,Qk] at hs;generalize aQ (64*2 ^ i) tx (0,0)=x at *;generalize aQ (64*2 ^ i) ty (0,0)=y at *
  have ih:=E6 (k0:=k0) hx hy lx ly d0 g0 hd hg hord k h0 hh r (i+1) s (by omega);have hm:((64*2 ^ i:Nat):Int)*2=((64*2 ^ (i+1):Nat):Int):=by rw [<- hd2];omega
  have hm2:((64*2 ^ (i+1):Nat):Int)<=8000:=by omega
  generalize 64*2 ^ (i+1)=m2 at *;generalize 64*2 ^ i=m at *;have s1:=iO y.2;have p1:=sJ y.2;obtain ⟨w,hw⟩:∃ w,w=(if y.2<=0 then sO (-x.2) (-x.1) (-y.2) (-y.1) d g else sO x.1 x.2 y.1 y.2 d g):=⟨_,rfl⟩;rw [<- hw] at hs
  have nx:w.2=false->lp (gX (CX Y) (.ptr 1 1 0 3) (.ptr 2 1 0 3)) [] h0 [I (m2:Int)] (flH k0 tx ty d g) k:=fun hf=>by
   rw [hf] at hs;exact ih (by simpa using hs) hk
  have rt:w.2=true->itoa w.1=itoa s:=fun ht=>by
   rw [ht] at hs;simp at hs;rw [hs]
  refine aj ?_
  have q2p:w.2=false->bnd (biI .mul (I (m:Int)) (.d (.int .i64 2))) fun v3=>
    clean [] [v3] (flH k0 tx ty d g)=true∧lp (gX (CX Y) (.ptr 1 1 0 3) (.ptr 2 1 0 3)) [] h0 [v3] (ay [] 0 h0 (flH k0 tx ty d g)) k:=fun hf=>by
   have:=nx hf;have e:biI .mul (I (m:Int)) (.d (.int .i64 2))=some (I (m2:Int)):=by rw [kq,hm,wrap_i64 ⟨by omega,by omega⟩]
   rw [e,oQ,et 0 h0 _ (by rw [hh];rfl)];exact ⟨by simp [flH,tmD,clean,mt,mr,dw,r8,eC,ji],this⟩
  have rtp:∀ h,w.2=true->k .ret [S (itoa w.1)] h:=fun h ht=>by rw [rt ht];exact hk h
  simp (disch:=first|omega|simp<;>omega|fail)[gX,flH,tmD];refine bC ?_;simp (disch:=first|omega|simp<;>omega|fail)[];refine cd ex' ?_ (by simp [ae,aA]);simp (disch:=first|omega|simp<;>omega|fail)[];refine cd ey' ?_ (by simp [ae,aA]);simp (disch:=first|omega|simp<;>omega|fail)[];refine cd s1 ?_ (by simp [ae,aA]);by_cases c:y.2<=0
  ·have c':sgn y.2<=0:=p1.2 c;rw [if_pos c] at hw;have n1:=rI (z:=x.2) (by omega);have n2:=rI (z:=x.1) (by omega);have n3:=rI (z:=y.2) (by omega);have n4:=rI (z:=y.1) (by omega)
   have fr:=E5 (X1:=-x.2) (X2:=-x.1) (Y1:=-y.2) (Y2:=-y.1) (tx:=tx) (ty:=ty) (d:=d) (g:=g) (M:=110000) (Z7 _) (by rw [X8];omega) (by rw [X8];omega) (by rw [X8];omega) (by rw [X8];omega) (by omega) d0 g0 hd hg (flH k0 tx ty d g) (.inr trivial) rfl rfl (fun h=>bnd (biI .mul (I (m:Int)) (.d (.int .i64 2))) fun v3=>clean [] [v3] h=true∧lp (gX (CX Y) (.ptr 1 1 0 3) (.ptr 2 1 0 3)) [] h0 [v3] (ay [] 0 h0 h) k) (fun v h=>k .ret [v] h) (fun hf=>q2p (by rw [hw];exact hf)) (fun ht=>by
    rw [<- hw] at ht ⊢;exact rtp _ ht)
   have e13:biI .leq (I (sgn y.2)) (.d (.int .i64 0))=some (B true):=by simp [c']
   rw [e13,oQ];refine L9 ?_;refine Eq.mpr (IA _ _) ?_;exact cd (u:=.mk) n1 (cd (u:=.mk) n2 (cd (u:=.mk) n3 (cd (u:=.mk) n4 fr (by simp [ae,aA])) (by simp [ae,aA])) (by simp [ae,aA])) (by simp [ae,aA])
  ·have c':¬ sgn y.2<=0:=fun z=>c (p1.1 z)
   rw [if_neg c] at hw
   have fr:=E5 (X1:=x.1) (X2:=x.2) (Y1:=y.1) (Y2:=y.2) (tx:=tx) (ty:=ty) (d:=d) (g:=g) (M:=110000) (Z7 _) (by omega) (by omega) (by omega) (by omega) hor d0 g0 hd hg (flH k0 tx ty d g) (.inr trivial) rfl rfl (fun h=>bnd (biI .mul (I (m:Int)) (.d (.int .i64 2))) fun v3=>clean [] [v3] h=true∧lp (gX (CX Y) (.ptr 1 1 0 3) (.ptr 2 1 0 3)) [] h0 [v3] (ay [] 0 h0 h) k) (fun v h=>k .ret [v] h) (fun hf=>q2p (by rw [hw];exact hf)) (fun ht=>by
    rw [<- hw] at ht ⊢;exact rtp _ ht)
   have e13:biI .leq (I (sgn y.2)) (.d (.int .i64 0))=some (B false):=by simp;omega
   rw [e13,oQ];refine L9 ?_;refine Eq.mpr (IB _ _) ?_;exact fr
def ui (p:List Int) (a b:List Q) (q:Int):Prop:=
 (jq (gM (0,1) a b) a b=true∧q=(gM (0,1) a b).1 / ((gM (0,1) a b).2:Int)) ∨
 (jq (gM (0,1) a b) a b=false∧Gu (tq p a)∧Gu (tq p b)∧fH 1 a<9223372036854775808∧fH 1 b<9223372036854775808 ∧
  ((BY (tq p a) (tq p b) (fH 1 a) (fH 1 b)=some q∧-9223372036854775808<q∧q<9223372036854775808) ∨
   (BY (tq p a) (tq p b) (fH 1 a) (fH 1 b)=none∧vY (tq p a)∧vY (tq p b)∧(∀ i,i<6->(aQ (64*2 ^ i) (tq p b) (0,0)).1<=(aQ (64*2 ^ i) (tq p b) (0,0)).2)∧Co (tq p a) (tq p b) (fH 1 a) (fH 1 b) 6 64=some q)))
theorem Gt {ts:List (Int × Int)} (h:Gu ts):okT ts:=⟨by have:=h.1;omega,fun t ht=>⟨(h.2 t ht).1,by have:=(h.2 t ht).2.1;omega,(h.2 t ht).2.2⟩⟩
theorem JW {p:List Int} {a b:List Q} {K:Nat} {q:Int} (hK:K<=1000) (hN:p.length<=20) (ha:a.length=p.length) (hb:b.length=p.length) (oa:okK K a) (ob:okK K b) (hq:ui p a b q):CP Y F.kv [lst di p,szV a,szV b] (S (itoa q)):=by
 refine BL ?_;have hKK:K*a.length<=1000*20:=Zs hK (by omega);have hKK2:K*b.length<=1000*20:=Zs hK (by omega);have ra:=Lb (a:=a) (b:=b) (K:=K) (by omega) (by omega) (by omega) oa ob;have z0:okQ ((0,1):Q):=⟨by decide,by decide⟩
 have zl:qL 90000 ((0,1):Q):=⟨Z3 (a6 (d:=1) (by decide) (by decide)) (by decide),Z3 (a6 (d:=1) (by decide) (by decide)) (by decide)⟩;obtain ⟨c1,c2⟩:=w5 (k:=(0,1)) (L:=90000) oa ob z0 zl (by omega);have ff:=GO c1 (c2.mono (by omega));have ta:=mV (p:=p) (s:=a) (K:=K) (by omega) ha.symm oa (by omega) (by omega)
 have tb:=mV (p:=p) (s:=b) (K:=K) (by omega) hb.symm ob (by omega) (by omega);have pa:=lZ (s:=a) (d:=1) (by decide) (fun x hx=>(oa x hx).1.1);have pb:=lZ (s:=b) (d:=1) (by decide) (fun x hx=>(ob x hx).1.1);have ra':CP Y F.ku [szV a,szV b] (.tup [.agg [S (tx (gM (0,1) a b)).1,S (tx (gM (0,1) a b)).2],B (jq (gM (0,1) a b) a b)]):=ra
 have ff':CP Y F.gv [.agg [S (tx (gM (0,1) a b)).1,S (tx (gM (0,1) a b)).2]] (S (itoa ((gM (0,1) a b).1 / (gM (0,1) a b).2))):=ff;have sn:∀ h:Hp,ae h [szV a,szV b]=some ([szV a,szV b],h):=fun h=>by simp [ae,szV,dI]
 simp (disch:=first|omega|simp<;>omega|fail)[kv];refine cd ra' ?_ (sn _);rcases hq with ⟨g,hq⟩ | ⟨g,qa,qb,da,db,hq⟩
 ·rw [g];subst hq;generalize gM (0,1) a b=c at *;simp (disch:=first|omega|simp<;>omega|fail)[];refine cd ff' ?_ (by simp [ae,aA]);exact cT rfl
 ·rw [g];generalize gM (0,1) a b=c at *;obtain ⟨q',b',qo,q1,q2⟩:=Ee qa qb da db pa pb;simp (disch:=first|omega|simp<;>omega|fail)[];refine cd ta ?_ (by simp [ae,szV,dI]);simp (disch:=first|omega|simp<;>omega|fail)[];refine cd tb ?_ (by simp [ae,szV,dI])
  show alV _ _ _ _
  have qo':CP Y F.cZ [.agg [.d (.sl (tq p a).length ((tq p a).map tmP)),.d (.sl (tq p a).length ((tq p a).map tmK)),S (aa (fH 1 a))],.agg [.d (.sl (tq p b).length ((tq p b).map tmP)),.d (.sl (tq p b).length ((tq p b).map tmK)),S (aa (fH 1 b))]] (.tup [I q',B b']):=qo;have e1:cJ (fH 1 a) p a=tq p a:=rfl;have e2:cJ (fH 1 b) p b=tq p b:=rfl;rw [e1,e2]
  have nd:=fun n (h:n<9223372036854775808)=>Z3 (a6 (n:=n) (d:=19) (by omega) (by decide)) (by decide:19<=100000)
  have fl:=fun hl1 hl2 ho (hs:Co (tq p a) (tq p b) (fH 1 a) (fH 1 b) 6 64=some q)=>E6 (k0:=tx c) (Gt qa) (Gt qb) hl1 hl2 pa pb (nd _ da) (nd _ db) ho (exK [(.ret,fun l20 h=>out (S (itoa q)) (ge l20 0) h)]) (flH (tx c) (tq p a) (tq p b) (fH 1 a) (fH 1 b)) rfl 6 0 q rfl hs (fun h=>by
   simp (disch:=first|omega|simp<;>omega|fail)[];exact cT rfl)
  generalize tq p a=ta' at *;generalize tq p b=tb' at *;simp (disch:=first|omega|simp<;>omega|fail)[tmV];refine cd qo' ?_ (by simp [ae,aA]);cases b' with
  | true=>
   rcases hq with ⟨h1,h2,h3⟩ | ⟨h1,_⟩
   ·rw [q1 rfl] at h1;simp only [Z9] at h1;subst h1;simp (disch:=first|omega|simp<;>omega|fail)[];refine cd (lF h2 h3) ?_;exact cT rfl
   ·rw [q1 rfl] at h1;cases h1
  | false=>
   rcases hq with ⟨h1,_⟩ | ⟨h1,hl1,hl2,ho,hs⟩
   ·rw [q2 rfl] at h1;cases h1
   ·have:=fl hl1 hl2 ho hs;simp only [flH,tmD,Zw,Y7] at this;simp (disch:=first|omega|simp<;>omega|fail)[];exact this
theorem FD {p:List Int} {a b:List Q} (hp:pcB p=0) (hN:p.length<=20) (ha:a.length=p.length) (hb:b.length=p.length) (oa:okS a) (ob:okS b) (hne:tq p b≠[]):CP Y F.eh [lst di p,szV a,szV b] (I 0):=by
 refine qA ?_
 have hab:∀ s ∈ [a,b],s.length=p.length∧okS s:=fun s hs=>by
  simp at hs;rcases hs with rfl | rfl
  ·exact ⟨ha,oa⟩
  ·exact ⟨hb,ob⟩
 have ca:=qX (p:=p) (l:=[a,b]) (by omega) (by simp) (fun s hs=>⟨(hab s hs).2,by have:=(hab s hs).1;omega⟩);rw [if_pos hp,xt (n:=p.length) (l:=[a,b]) fun s hs=>(hab s hs).1] at ca;have tb:=mV (p:=p) (s:=b) (K:=30) (by omega) hb.symm ob (by omega) (by omega);have l1:∀ H,dk 2 [D.pl (Value.slice none 0 0)] [(0,szV a),(1,szV b)] H=some ([szD a,szD b],H):=fun H=>JI ..
 have e2:cJ (fH 1 b) p b=tq p b:=rfl;rw [e2] at tb;generalize tq p b=t at *;have ll:am (.d (.sl t.length (t.map tmP)))=some (I t.length):=rfl;simp (disch:=first|omega|simp<;>omega|fail)[eh,l1];refine cd (v:=I 0) ca ?_ (by simp [ae,aA,norm]);simp (disch:=first|omega|simp<;>omega|fail)[];refine cd tb ?_ (by simp [ae,szV,dI])
 simp (disch:=first|omega|simp<;>omega|fail)[tmV,fiV,ll,hne]
def tI (p:List Int) (a b:List Q):List Q:=j8 p.length [a,b] [(2,1),(1,1)]
def qG (p:List Int) (b:List Q):List Q:=j8 p.length [b] [(2,1)]
theorem Bz:okK 1 [(2,1),(1,1)]:=fun x hx=>by
 simp at hx;rcases hx with rfl | rfl
 ·exact ⟨⟨by decide,by decide⟩,a6 (by decide) (by decide),a6 (by decide) (by decide)⟩
 ·exact ⟨⟨by decide,by decide⟩,a6 (by decide) (by decide),a6 (by decide) (by decide)⟩
theorem D5 {p:List Int} {a b:List Q} {q:Int} (hp:pcB p=0) (hN:p.length<=20) (ha:a.length=p.length) (hb:b.length=p.length) (oa:okS a) (ob:okS b) (hne:tq p b≠[]) (hq:ui p (tI p a b) (qG p b) q):CP Y F.kw [lst di p,szV a,szV b] (.tup [S (itoa q),I 0]):=by
 refine BP ?_;have cq:=FD hp hN ha hb oa ob hne
 have hab:∀ s ∈ [a,b],s.length=p.length∧okK 30 s:=fun s hs=>by
  simp at hs;rcases hs with rfl | rfl
  ·exact ⟨ha,oa⟩
  ·exact ⟨hb,ob⟩
 have hbb:∀ s ∈ [b],s.length=p.length∧okK 30 s:=fun s hs=>by
  simp at hs;subst hs;exact ⟨hb,ob⟩
 have o2:okK 1 [((2,1):Q)]:=fun x hx=>Bz x (by simp at hx;subst hx;simp)
 have su:=xK (n:=p.length) (l:=[a,b]) (fs:=[(2,1),(1,1)]) (Ks:=30) (Kk:=1) (by omega) (by simp) rfl (by decide) (by simp) hab Bz;have sv:=xK (n:=p.length) (l:=[b]) (fs:=[(2,1)]) (Ks:=30) (Kk:=1) (by omega) (by simp) rfl (by decide) (by simp) hbb o2;have oA:okK 65 (tI p a b):=wY (Ks:=30) (Kk:=1) (Ko:=1) (tu _) (fun s hs=>(hab s hs).2) Bz
 have oB:okK 65 (qG p b):=fun x hx=>by
  have:=wY (Ks:=30) (Kk:=1) (Ko:=1) (tu p.length) (fun s hs=>(hbb s hs).2) o2 x hx;exact ⟨this.1,this.2.mono (by simp)⟩
 have lA:(tI p a b).length=p.length:=by
  unfold tI j8;rw [mW (fun s hs=>by simpa using (hab s hs).1)];simp
 have lB:(qG p b).length=p.length:=by
  unfold qG j8;rw [mW (fun s hs=>by simpa using (hbb s hs).1)];simp
 have fl:=JW (p:=p) (K:=65) (by omega) hN lA lB oA oB hq;have l1:∀ H,dk 2 [D.pl (Value.slice none 0 0)] [(0,szV a),(1,szV b)] H=some ([szD a,szD b],H):=fun H=>JI ..
 have l2:∀ H,dk 2 [D.str [],D.str []] [(0,.agg (qT (2,1))),(1,.agg (qT (1,1)))] H=some (aJ (tx (2,1))++aJ (tx (1,1)),H):=fun H=>LR (2,1) (1,1) H
 have l3:am (lst di p)=some (I p.length):=rfl;have l4:∀ H,dk 1 [D.pl (Value.slice none 0 0)] [(0,szV b)] H=some ([szD b],H):=fun H=>JJ ..
 have l5:∀ H,dk 1 [D.str [],D.str []] [(0,.agg (qT (2,1)))] H=some (aJ (tx (2,1)),H):=fun H=>H9 (2,1) H
 have sn:∀ (h:Hp) (x y:List Q),ae h [lst di p,szV x,szV y]=some ([lst di p,szV x,szV y],h):=fun h x y=>by simp [ae,szV,dI]
 simp (disch:=first|omega|simp<;>omega|fail)[kw];refine cd cq ?_ (sn _ _ _);simp (disch:=first|omega|simp<;>omega|fail)[l1,l3];refine cd (fi (z:=2) (by omega) (by omega)) ?_;simp (disch:=first|omega|simp<;>omega|fail)[];refine cd (fi (z:=1) (by omega) (by omega)) ?_;simp (disch:=first|omega|simp<;>omega|fail)[l2]
 refine cd (v:=szV (tI p a b)) su ?_ (by simp [ae,aA,norm]);simp (disch:=first|omega|simp<;>omega|fail)[l3,l4];refine cd (fi (z:=2) (by omega) (by omega)) ?_;simp (disch:=first|omega|simp<;>omega|fail)[l5];refine cd (v:=szV (qG p b)) sv ?_ (by simp [ae,aA,norm]);simp (disch:=first|omega|simp<;>omega|fail)[];refine cd fl ?_ (sn _ _ _);exact ai rfl rfl
theorem Rm (a b:List UInt8):bld [(0,1),(1,1)] [.str [],.str []] [(0,S a),(1,S b)]=some (.agg [S a,S b]):=by simp [bld,kS,qY]
def bT (p:List Int) (n:Nat):List Q:=j8 p.length [eW p.length] [(1,n)]
theorem yV (n:Nat):okS (eW n):=fun x hx=>by
 unfold eW at hx;simp only [Zt] at hx;rcases hx with rfl | hx
 ·exact vi 1 (by omega) (by omega)
 ·have:=Xv hx;subst this;exact vi 0 (by omega) (by omega)
theorem PN {n:Nat} (h0:0<n) (h1:n<=10000):okQ ((1,n):Q)∧qL 30 ((1,n):Q):=
 ⟨⟨h0,by simp⟩,Z3 (a6 (d:=1) (by simp) (by decide)) (by decide),Z3 (a6 (d:=5) (by show n<10 ^ 5;omega) (by decide)) (by decide)⟩
theorem lV {n:Nat} {l:List (List Q)} {f:List Q} (h:∀ s∈l,s.length=n):(j8 n l f).length=n:=by
 unfold j8;rw [mW (fun s hs=>by simpa using h s hs)];simp
theorem yW {p:List Int} {n:Nat} (hp:pcB p=0) (hN:p.length<=20) (hl:0<p.length) (h0:0<n) (h1:n<=10000) (hr:okS (bT p n)):CP Y F.fR [lst di p,I n] (.tup [szV (bT p n),I 0]):=by
 refine wK ?_;have eq:=A1 hp (by omega) hl;have of_:=lF (z:=(n:Int)) (by omega) (by omega);rw [bW] at of_;have le:(eW p.length).length=p.length:=by simp [eW];omega
 have sc:=tG (p:=p) (s:=eW p.length) (k:=(1,n)) hp (by omega) le (yV _) (PN h0 h1) hr;have e1:itoa 1=[49]:=dy
 have sc':CP Y F.fe [lst di p,szV (eW p.length),.agg [S [49],S (aa n)]] (.tup [szV (bT p n),I 0]):=by
  have:qT ((1,n):Q)=[S [49],S (aa n)]:=by simp only [qT,e1]
  rw [<- this];exact sc
 have b:=Rm [49] (aa n);simp (disch:=first|omega|simp<;>omega|fail)[fR];refine cd eq ?_;simp (disch:=first|omega|simp<;>omega|fail)[];refine cd of_ ?_;simp (disch:=first|omega|simp<;>omega|fail)[b];refine cd sc' ?_ (by simp [ae,aA,szV,dI]);simp (disch:=first|omega|simp<;>omega|fail)[];exact ai (nE _ _) rfl
theorem qU {p:List Int} {n:Nat} {s:List Q} {q:Int} (hp:pcB p=0) (hN:p.length<=20) (hl:0<p.length) (h0:0<n) (h1:n<=10000) (hr:okS (bT p n)) (ls:s.length=p.length) (os:okS s) (hne:tq p (bT p n)≠[]) (hq:ui p (tI p s (bT p n)) (qG p (bT p n)) q) :
  CP Y F.dz [lst di p,I n,szV s] (.tup [S (itoa q),I 0]):=by
 refine s9 ?_;have st:=yW hp hN hl h0 h1 hr;have lt:(bT p n).length=p.length:=lV fun s hs=>by simp at hs;subst hs;simp [eW];omega
 have ro:=D5 hp hN ls lt os hr hne hq;simp (disch:=first|omega|simp<;>omega|fail)[dz];refine cd st ?_;simp (disch:=first|omega|simp<;>omega|fail)[];refine cd ro ?_ (by simp [ae,szV,dI]);simp (disch:=first|omega|simp<;>omega|fail)[];exact ai rfl rfl
def jf (p:List Int) (n:Nat) (q:Int):List Q:=j8 p.length [bT p n] [(q,1)]
theorem A7 {p:List Int} {n:Nat} {q:Int} (hp:pcB p=0) (hN:p.length<=20) (hl:0<p.length) (h0:0<n) (h1:n<=10000) (hr:okS (bT p n)) (q1 : -1000000000000000000<q) (q2:q<1000000000000000000) (hr2:okS (jf p n q)):CP Y F.gA [lst di p,I n,S (itoa q)] (.tup [szV (jf p n q),I 0]):=by
 refine vA ?_;have st:=yW hp hN hl h0 h1 hr;have lt:(bT p n).length=p.length:=lV fun s hs=>by simp at hs;subst hs;simp [eW];omega
 have sc:=tG (p:=p) (s:=bT p n) (k:=(q,1)) hp (by omega) lt hr (vi q q1 q2) hr2
 have sc':CP Y F.fe [lst di p,szV (bT p n),.agg [S (itoa q),S [49]]] (.tup [szV (jf p n q),I 0]):=by
  have:qT ((q,1):Q)=[S (itoa q),S [49]]:=by simp only [qT,dy]
  rw [<- this];exact sc
 have b:=Rm (itoa q) [49];simp (disch:=first|omega|simp<;>omega|fail)[gA];refine cd st ?_;simp (disch:=first|omega|simp<;>omega|fail)[b];refine cd sc' ?_ (by simp [ae,aA,szV,dI]);simp (disch:=first|omega|simp<;>omega|fail)[];exact ai (nE _ _) rfl
def nI (p:List Int) (n:Nat) (q:Int) (s:List Q):List Q:=j8 p.length [jf p n q,s] [(1,1),(-1,1)]
theorem uY {p:List Int} {n:Nat} (hl:0<p.length):(bT p n).length=p.length:=lV fun s hs=>by simp at hs;subst hs;simp [eW];omega
theorem sG {p:List Int} {n:Nat} {q:Int} (hl:0<p.length):(jf p n q).length=p.length:=lV fun s hs=>by simp at hs;subst hs;exact uY hl
theorem OM {p:List Int} {n:Nat} {q:Int} {s:List Q} (hp:pcB p=0) (hN:p.length<=20) (hl:0<p.length) (h0:0<n) (h1:n<=10000) (hr:okS (bT p n)) (q1 : -1000000000000000000<q) (q2:q<1000000000000000000) (hr2:okS (jf p n q)) (ls:s.length=p.length) (os:okS s) (hr3:okS (nI p n q s)) :
  CP Y F.jX [lst di p,I n,S (itoa q),szV s] (.tup [szV (nI p n q s),I 0]):=by
 refine yZ ?_;have ti:=A7 hp hN hl h0 h1 hr q1 q2 hr2;have sb:=Qa (p:=p) (s:=jf p n q) (t:=s) hp (by omega) (sG hl) hr2 ls os hr3;simp (disch:=first|omega|simp<;>omega|fail)[jX];refine cd ti ?_ (by simp [ae,aA]);simp (disch:=first|omega|simp<;>omega|fail)[];refine cd sb ?_ (by simp [ae,szV,dI]);simp (disch:=first|omega|simp<;>omega|fail)[]
 exact ai (nE _ _) rfl
structure wV (p:List Int) (n:Nat) (r:List Int) (q:Int):Prop where
 hp:pcB p=0
 hN:p.length<=20
 hl:0<p.length
 h0:0<n
 h1:n<=10000
 lr:r.length=p.length
 sr:smR r=true
 st:okS (bT p n)
 of:okS (ofQ r)
 ne:tq p (bT p n)≠[]
 fl:ui p (tI p (ofQ r) (bT p n)) (qG p (bT p n)) q
 q1 : -1000000000000000000<q
 q2:q<1000000000000000000
 ti:okS (jf p n q)
 er:okS (nI p n q (ofQ r))
theorem Bb {p r:List Int} {n:Nat} {q:Int} (E:wV p n r q):CP Y F.eA [lst di p,I n,lst di r] (.tup [szV (nI p n q (ofQ r)),I 0]):=by
 refine tc ?_;have of_:=KV E.hp (by have:=E.hN;omega) E.lr E.sr;have lo:(ofQ r).length=p.length:=by simp [ofQ,E.lr]
 have ne:=qU E.hp E.hN E.hl E.h0 E.h1 E.st lo E.of E.ne E.fl;have off:=OM E.hp E.hN E.hl E.h0 E.h1 E.st E.q1 E.q2 E.ti lo E.of E.er;simp (disch:=first|omega|simp<;>omega|fail)[eA];refine cd of_ ?_;simp (disch:=first|omega|simp<;>omega|fail)[];refine cd ne ?_ (by simp [ae,szV,dI]);simp (disch:=first|omega|simp<;>omega|fail)[]
 refine cd off ?_ (by simp [ae,szV,dI]);simp (disch:=first|omega|simp<;>omega|fail)[];exact ai (nE _ _) rfl
def nA (p:List Int) (n:Nat) (r:List Int) (q z:Int):List Q:=Nt p (nI p n q (ofQ r)) z
theorem AO {p:List Int} {n:Nat} {q:Int} {s:List Q} (hl:0<p.length) (hs:s.length=p.length):(nI p n q s).length=p.length:=lV fun t ht=>by
 simp at ht;rcases ht with rfl | rfl
 ·exact sG hl
 ·exact hs
theorem MM {p r:List Int} {n:Nat} {q z:Int} (E:wV p n r q) (hz:wC p (nI p n q (ofQ r)) z) (z1 : -1<=z) (z2:z<=1):CP Y F.jd [lst di p,I n,lst di r] (.tup [szV (nA p n r q z),I 0]):=by
 refine wM ?_;have er:=Bb E;have lo:(ofQ r).length=p.length:=by simp [ofQ,E.lr]
 have ab:=Ro E.hp (by have:=E.hN;omega) (AO (n:=n) (q:=q) E.hl lo) E.er hz z1 z2;simp (disch:=first|omega|simp<;>omega|fail)[jd];refine cd er ?_;simp (disch:=first|omega|simp<;>omega|fail)[];refine cd ab ?_ (by simp [ae,szV,dI]);simp (disch:=first|omega|simp<;>omega|fail)[];exact ai (nE _ _) rfl
theorem MG {p:List Int} {a b:List Q} {z:Int} (hp:pcB p=0) (hN:p.length<1000) (ha:a.length=p.length) (hb:b.length=p.length) (oa:okS a) (ob:okS b) (hz:wC p (dfS p a b) z):CP Y F.jc [lst di p,szV a,szV b] (B (decide (z<0))):=by
 refine wL ?_;have co:=Hk hp hN ha hb oa ob hz;simp (disch:=first|omega|simp<;>omega|fail)[jc];refine cd co ?_ (by simp [ae,szV,dI]);simp (disch:=first|omega|simp<;>omega|fail)[] <;> exact iP rfl
def dvC (p:List Int) (n:Int):Int:=if pcB p=0 then (if n<1∨10000<n then 3 else 0) else pcB p
theorem oP {p:List Int} {n:Int} (hN:p.length<1000000):CP Y F.dP [lst di p,I n] (I (dvC p n)):=by
 refine vB ?_;unfold dvC;simp (disch:=first|omega|simp<;>omega|fail)[dP];refine cd (iX (by omega)) ?_;by_cases h:pcB p=0
 ·rw [if_pos h];by_cases c1:n<1
  ·rw [if_pos (.inl c1)];simp (disch:=first|omega|simp<;>omega|fail)[h,c1] <;> exact bH rfl
  ·by_cases c2:10000<n
   ·rw [if_pos (.inr c2)];simp (disch:=first|omega|simp<;>omega|fail)[h,c1,c2] <;> exact bH rfl
   ·rw [if_neg (by omega)];simp (disch:=first|omega|simp<;>omega|fail)[h,c1,c2] <;> exact bH rfl
 ·rw [if_neg h];simp (disch:=first|omega|simp<;>omega|fail)[h] <;> exact bH rfl
structure Pr (p r:List Int) (lim:Nat) (qf zf:Nat->Int) (ls:Nat->Nat->Bool):Prop where
 er:∀ n,1<=n->n<=lim->wV p n r (qf n)
 sg:∀ n,1<=n->n<=lim->wC p (nI p n (qf n) (ofQ r)) (zf n)∧-1<=zf n∧zf n<=1
 ok:∀ n,1<=n->n<=lim->okS (nA p n r (qf n) (zf n))
 cm:∀ n m,1<=m->m<n->n<=lim->∃ z,wC p (dfS p (nA p n r (qf n) (zf n)) (nA p m r (qf m) (zf m))) z∧decide (z<0)=ls n m
def kf (ls:Nat->Nat->Bool):Nat->Nat->Nat->List Int
 | 0,_,_=>[]
 | f+1,n,m=>if m=0∨ls n m=true then (n:Int)::kf ls f (n+1) n else kf ls f (n+1) m
def acR:Acc:=⟨0,0,1,.none⟩
theorem Bq {p r:List Int} {n:Nat} {q z:Int} (hl:0<p.length) (hr:r.length=p.length):(nA p n r q z).length=p.length:=lV fun t ht=>by
 simp at ht;subst ht;exact AO hl (by simp [ofQ,hr])
theorem tN {p r:List Int} {lim:Nat} {qf zf:Nat->Int} {ls:Nat->Nat->Bool} (R:Pr p r lim qf zf ls) (hlim:lim<=500) (k:KL) (h0:Hp) (hh:h0.length=1):∀ (f n m:Nat) (out0:List Int) (best:V),n+f=lim+1->1<=n->out0.length<n->m<n->(m=0->n=1)->(m≠0->best=szV (nA p m r (qf m) (zf m)))->(m=0->best=k9) ->
  (k (.exit 0) [acR.v (out0++kf ls f n m).length ((out0++kf ls f n m).map di)] [acR.b (out0++kf ls f n m).length ((out0++kf ls f n m).map di)]) ->
  lp (ii (CX Y) (lst di p) (lst di r) (I lim)) [] h0 [acR.v out0.length (out0.map di),best,I n] [acR.b out0.length (out0.map di)] k
 | 0,n,m,out0,best,hf,hn,ho,hm,hm0,hb,hb0,hk=>by
  have g:¬ (n:Int)<=(lim:Int):=by omega
  refine aj ?_;simp (disch:=first|omega|simp<;>omega|fail)[ii,g];simpa [kf] using hk
 | f+1,n,m,out0,best,hf,hn,ho,hm,hm0,hb,hb0,hk=>by
  have g:(n:Int)<=(lim:Int):=by omega
  obtain ⟨s1,s2,s3⟩:=R.sg n hn (by omega);have E:=R.er n hn (by omega);have aw:=MM E s1 s2 s3;refine aj ?_;simp (disch:=first|omega|simp<;>omega|fail)[ii,g];refine bC ?_;simp (disch:=first|omega|simp<;>omega|fail)[];refine cd aw ?_ (by simp [ae,aA])
  have li1:∀ (z:Int) (H:Hp),dk 1 [D.int IntKind.i64 0] [(0,I z)] H=some ([di z],H):=fun z H=>by simp [dk,fY,iz,toD,di]
  have cR:(out0.map di).length=out0.length*acR.n:=by simp [acR]
  by_cases h1:n=1
  ·subst h1;have hm1:m=0:=by omega
   subst hm1;have ih:=tN R hlim k h0 hh f 2 1 (out0++[1]) (szV (nA p 1 r (qf 1) (zf 1))) (by omega) (by omega) (by simp;omega) (by omega) (by omega) (fun _=>rfl) (by omega) (by simpa [kf] using hk);simp (disch:=first|omega|simp<;>omega|fail)[];refine bC ?_;simp (disch:=first|omega|simp<;>omega|fail)[li1]
   refine pG acR (k:=1) (by omega) rfl cR (by rfl) rfl (fun t e=>by cases e) (by omega) (by decide) ?_;have cU:∀ x y:Nat × Bk,([x]:Hp).set acR.s y=[y]:=fun x y=>rfl
   have hre:∀ x:Hp,x.length=1->ay [] 0 h0 x=x:=fun x hx=>et 0 h0 x (by omega)
   have ov:=uL acR [] (out0.length+1) (out0.map di++[di 1]) rfl;have ob:=uM acR [] (out0.length+1) (out0.map di++[di 1]) rfl;simp (disch:=first|omega|simp<;>omega|fail)[cU,hre,clean,eC,mt,mr,dw,ov,ob,ji,szV,dI];refine ⟨rfl,?_⟩;have ev:∀ c,acR.v (out0.length+1) c=.ref acR.s (acR.e+1) 0 (out0.length+1) (out0.length+1) c.length:=fun c=>rfl
   have eb:∀ c,acR.b (out0.length+1) c=(acR.e+1,.data acR.n c false false):=fun c=>rfl
   simpa [szV,dI,ev,eb] using ih
  ·have hm1:m≠0:=fun e=>h1 (hm0 e)
   obtain ⟨z,cz,hz⟩:=R.cm n m (by omega) hm (by omega);obtain rfl:=hb hm1;have lA:=Bq (n:=n) (q:=qf n) (z:=zf n) E.hl E.lr;have lB:=Bq (n:=m) (q:=qf m) (z:=zf m) E.hl E.lr;have le:=MG E.hp (by have:=E.hN;omega) lA lB (R.ok n hn (by omega)) (R.ok m (by omega) (by omega)) cz;rw [hz] at le;have h1':¬ (n:Int)=1:=by omega
   have sn:∀ (h:Hp) (x y:List Q),ae h [lst di p,szV x,szV y]=some ([lst di p,szV x,szV y],h):=fun h x y=>by simp [ae,szV,dI]
   have hre:∀ x:Hp,x.length=1->ay [] 0 h0 x=x:=fun x hx=>et 0 h0 x (by omega)
   simp (disch:=first|omega|simp<;>omega|fail)[h1'];refine cd le ?_ (sn _ _ _);cases hl:ls n m with
   | true=>
    have ih:=tN R hlim k h0 hh f (n+1) n (out0++[(n:Int)]) (szV (nA p n r (qf n) (zf n))) (by omega) (by omega) (by simp;omega) (by omega) (by omega) (fun _=>rfl) (by omega) (by simpa [kf,hm1,hl] using hk);simp (disch:=first|omega|simp<;>omega|fail)[];refine bC ?_;simp (disch:=first|omega|simp<;>omega|fail)[li1]
    refine pG acR (k:=1) (by omega) rfl cR (by rfl) rfl (fun t e=>by cases e) (by omega) (by decide) ?_;have cU:∀ x y:Nat × Bk,([x]:Hp).set acR.s y=[y]:=fun x y=>rfl
    simp (disch:=first|omega|simp<;>omega|fail)[cU,hre,clean,eC,mt,mr,dw,ji,szV,dI];refine ⟨rfl,?_⟩;have ev:∀ c,acR.v (out0.length+1) c=.ref acR.s (acR.e+1) 0 (out0.length+1) (out0.length+1) c.length:=fun c=>rfl
    have eb:∀ c,acR.b (out0.length+1) c=(acR.e+1,.data acR.n c false false):=fun c=>rfl
    simpa [szV,dI,ev,eb] using ih
   | false=>
    have ih:=tN R hlim k h0 hh f (n+1) m out0 (szV (nA p m r (qf m) (zf m))) (by omega) (by omega) (by omega) (by omega) (by omega) (fun _=>rfl) (by omega) (by simpa [kf,hm1,hl] using hk);have ov:=uL acR [] out0.length (out0.map di) rfl;have ob:=uM acR [] out0.length (out0.map di) rfl;simp (disch:=first|omega|simp<;>omega|fail)[];refine bC ?_
    simp (disch:=first|omega|simp<;>omega|fail)[hre,clean,eC,mt,mr,dw,ov,ob,ji,szV,dI];simpa [szV,dI] using ih
theorem Gi {p r:List Int} {lim:Nat} {qf zf:Nat->Int} {ls:Nat->Nat->Bool} (R:Pr p r lim qf zf ls) (hlim:lim<=500) (hl1:1<=lim):CP Y F.eB [lst di p,lst di r,I lim] (.tup [lst di (kf ls lim 1 0),I 0]):=by
 refine te ?_;have E:=R.er 1 (Z7 _) hl1;have pc:=iX (p:=p) (by have:=E.hN;omega);rw [E.hp] at pc;have mc:=yv (p:=p) (r:=r) (by have:=E.hN;omega);rw [LG E.hp E.lr E.sr] at mc;have g1:¬ (lim:Int)<1:=by omega
 have g2:¬ (500:Int)<(lim:Int):=by omega
 have rl:=tN R hlim (exK [((.exit 0),fun l9 h=>out (.tup [lst di (kf ls lim 1 0),I 0]) (.tup [(ge l9 0),(.d (.int .i64 0))]) h),(.ret,fun l9 h=>out (.tup [lst di (kf ls lim 1 0),I 0]) (.tup [(ge l9 0),(ge l9 1)]) h)]) [(0,.none)] rfl lim 1 0 [] k9 (by omega) (by omega) (by simp) (by omega) (by omega) (by omega) (fun _=>rfl) (by
  simp only [List.nil_append];generalize kf ls lim 1 0=w;simp (disch:=first|omega|simp<;>omega|fail)[];obtain ⟨h',q1,_⟩:=oR acR (L:=w.length) (cells:=w.map di) (h:=[acR.b w.length (w.map di)]) rfl (by simp [acR]);exact ai q1 rfl)
 simp (disch:=first|omega|simp<;>omega|fail)[eB];refine cd pc ?_;simp (disch:=first|omega|simp<;>omega|fail)[];refine cd mc ?_;simp (disch:=first|omega|simp<;>omega|fail)[g1,g2];exact rl
end Go.Vm
