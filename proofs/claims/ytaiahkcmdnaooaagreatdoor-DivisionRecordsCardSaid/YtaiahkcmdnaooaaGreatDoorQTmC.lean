/- The terms of a size: near, quick. -/
import Derived.Test.YtaiahkcmdnaooaaGreatDoorQRefRow
import Derived.Test.YtaiahkcmdnaooaaGreatDoorQT
set_option linter.unusedVariables false
namespace Go.Vm
open Go Go.Am Go.Big
theorem rJ:∀ (r low high out a:Nat),pr r low high out=some a->a < (out+1) * 2 ^ r
 | 0,low,high,out,a,h=>by simp only [pr,Z9] at h;subst h;simp
 | r+1,low,high,out,a,h=>by
  have e:∀ x:Nat,(x+1) * 2 ^ (r+1)=(2 * x+2) * 2 ^ r:=fun x=>by rw [Nat.pow_succ,Zy (2 ^ r) 2,<- Nat.mul_assoc];congr 1;omega
  rw [e];simp only [pr] at h;cases c1:Nat.ble E63 (low * low / E62) with
  | true=>
   rw [c1] at h;have:=rJ r _ _ _ a h
   rwa [show out * 2+1+1=2 * out+2 by omega] at this
  | false=>
   rw [c1] at h;cases c2:Nat.ble E63 (high * high / E62+1) with
   | true=>rw [c2] at h;cases h
   | false=>
    rw [c2] at h;have:=rJ r _ _ _ a h;exact Z2 this (Z1 _ (by omega))
theorem Mi {p a:Nat} (hp:2<=p) (hp2:p < 1000000) (h:r9 p=some a):a < 1342177280:=by
 obtain ⟨hk0,hpk,hk1⟩:=kQ (n:=p) (by omega)
 have hk20:aY p<=20:=by
  have:2 ^ (aY p - 1) < 2 ^ 20:=by omega
  have:=(Y6 (by decide:1 < 2)).1 this;omega
 have:=rJ _ _ _ _ _ h;have h2:(aY p - 1+1) * 2 ^ 26<=20 * 2 ^ 26:=Z1 _ (by omega);omega
theorem Ql (x y:Int):mx2 false x y=min x y:=by unfold mx2;simp;omega
theorem Gr (x y:Int):mx2 true x y=max x y:=by unfold mx2;simp;omega
def gj (most:Int):List (Int × Int)->Int × Int->Option (Int × Int)
 | [],a=>some a
 | t :: ts,a=>if most < t.2∨t.2 < -most then none else match r9 t.1.toNat with
  | none=>none
  | some f=>
   let b:Int:=if t.1=2 then f else f+1
   gj most ts (a.1+min (t.2 * f) (t.2 * b),a.2+max (t.2 * f) (t.2 * b))
def neV:Option (Int × Int)->V
 | some a=>.tup [I a.1,I a.2,B true]
 | none=>.tup [I 0,I 0,B false]
def mA (ts:List (Int × Int)) (d:Nat) (n lo hi:Int) (b:Bool):Hp:=[(1,.vars ((tmD ts d).map .d)),(1,.vars [I n]),(1,.vars [I lo]),(1,.vars [I hi]),(1,.vars [B b])]
theorem xD {d:Nat} {most:Int} (hm0:0<=most) (hm:most<=10000000) {tt:List (Int × Int)} (k:Exit->Hp->Prop) (h0:Hp) (hh:h0.length=5):∀ (ts:List (Int × Int)) (lo hi B:Int),(∀ t ∈ ts,2<=t.1∧t.1 < 1000000∧t.2.natAbs < 9223372036854775808)->B+ts.length * 13421772810000000<=9000000000000000000->-B<=lo->lo<=B->-B<=hi->hi<=B ->
  (∀ a,gj most ts (lo,hi)=some a->k .normal (mA tt d most a.1 a.2 false))->(gj most ts (lo,hi)=none->k .ret (mA tt d most 0 0 false)) ->
  rg 2 (cw (CX Y) (.ptr 1 1 0 1) (.ptr 2 1 0 1) (.ptr 3 1 0 1) (.ptr 4 1 0 1)) [] h0 k (tmX ts) (mA tt d most lo hi false)
 | [],lo,hi,Bd,hl,hb,h1,h2,h3,h4,hk,hn=>by
  simpa [tmX,rg] using hk (lo,hi) rfl
 | t :: ts,lo,hi,Bd,hl,hb,h1,h2,h3,h4,hk,hn=>by
  obtain ⟨l1,l2,l3⟩:=hl t (by simp);have sm:=uW (z:=t.2) l3;obtain ⟨p,hp⟩:∃ p:Nat,t.1=p:=⟨t.1.toNat,by omega⟩;have hpn:t.1.toNat=p:=by omega
  have fa:=fast_ok (p:=p) (by omega) (by omega);rw [<- hp] at fa;have eL:([.int .i64 t.1,.string ⟨⟨itoa t.2⟩⟩]:List Value).map (fun v=>V.d (gk v))=[I t.1,S (itoa t.2)]:=rfl;simp only [gj,hpn] at hk hn;have hlen:∀ x:Hp,x.length=5->ax [] 0 h0 x=x:=fun x hx=>dK 0 h0 x (by omega)
  simp only [tmX,Zx];refine Ht rfl ?_;rw [eL];by_cases c1:most < t.2
  ·rw [if_pos (.inl c1)] at hn;simp (disch:=first|omega|simp<;>omega|fail)[cw,mA,tmD];refine cd sm ?_ (by simp [ae,aB]);simp (disch:=first|omega|simp<;>omega|fail)[c1];simpa [mA,tmD] using hn rfl
  ·by_cases c2:t.2 < -most
   ·rw [if_pos (.inr c2)] at hn;simp (disch:=first|omega|simp<;>omega|fail)[cw,mA,tmD];refine cd sm ?_ (by simp [ae,aB]);simp (disch:=first|omega|simp<;>omega|fail)[c1,c2];simpa [mA,tmD] using hn rfl
   ·rw [if_neg (by omega)] at hn;simp only [show ¬ (most < t.2∨t.2 < -most) by omega,if_false] at hk;cases hf:r9 p with
    | none=>
     rw [hf] at fa hn;simp (disch:=first|omega|simp<;>omega|fail)[cw,mA,tmD];refine cd sm ?_ (by simp [ae,aB]);simp (disch:=first|omega|simp<;>omega|fail)[c1,c2];refine cd fa ?_;simp (disch:=first|omega|simp<;>omega|fail)[Mj];simpa [mA,tmD] using hn rfl
    | some f=>
     have hflt:=Mi (by omega) (by omega) hf;rw [hf] at fa hk hn;simp only at hk hn;obtain ⟨b,hb'⟩:∃ b:Int,b=(if t.1=2 then (f:Int) else f+1):=⟨_,rfl⟩;rw [<- hb'] at hk hn;have hbb:(f:Int)<=b∧b<=f+1:=by subst hb';split <;> omega
     obtain ⟨x,hx⟩:∃ x:Int,x=t.2 * f:=⟨_,rfl⟩;obtain ⟨y,hy⟩:∃ y:Int,y=t.2 * b:=⟨_,rfl⟩
     have bd:∀ z:Int,0<=z->z<=1342177281->-13421772810000000<=t.2 * z∧t.2 * z<=13421772810000000:=by
      intro z hz0 hz;have a1:t.2 * z<=10000000 * z:=Zq (by omega) hz0;have a2:(-10000000) * z<=t.2 * z:=Zq (by omega) hz0;omega
     have bx:=bd f (by omega) (by omega);have by_:=bd b (by omega) (by omega);rw [<- hx] at bx hk hn;rw [<- hy] at by_ hk hn;have ih:=xD (tt:=tt) (d:=d) hm0 hm k h0 hh ts (lo+min x y) (hi+max x y) (Bd+13421772810000000) (fun t ht=>hl t (by simp [ht])) (by simp at hb;omega) (by omega) (by omega) (by omega) (by omega) hk hn;simp at hb
     have m1:biI .mul (I t.2) (I (f:Int))=some (I x):=by rw [kf,<- hx,wrap_i64 ⟨by omega,by omega⟩]
     have m2:biI .mul (I t.2) (I b)=some (I y):=by rw [kf,<- hy,wrap_i64 ⟨by omega,by omega⟩]
     have tail:∀ q:Exit->Hp->Prop,q .normal (mA tt d most (lo+min x y) (hi+max x y) false)->jn (fun l26 h=>
       bnd (ld1 h (.ptr 2 1 0 1)) fun v28=>
       bnd (biI .mul (I t.2) (I (f:Int))) fun v29=>
       bnd (biI .mul (I t.2) (ge l26 0)) fun v30=>
       bnd (mxI false [v29,v30]) fun v31=>
       bnd (biI .add v28 v31) fun v32=>
       bnd (ld1 h (.ptr 3 1 0 1)) fun v33=>
       bnd (biI .mul (I t.2) (I (f:Int))) fun v34=>
       bnd (biI .mul (I t.2) (ge l26 0)) fun v35=>
       bnd (mxI true [v34,v35]) fun v36=>
       bnd (biI .add v33 v36) fun v37=>
       sp h (.ptr 2 1 0 1) [.ptr 3 1 0 1] <| stD h 1 (.ptr 2 1 0 1) v32 fun _ h=>
       stD h 1 (.ptr 3 1 0 1) v37 fun _ h=>
       q .normal h) fun q27=>q27 [I b] (mA tt d most lo hi false):=by
      intro q hq;rw [EJ (l:=[I b]) (h:=mA tt d most lo hi false) (fun q=>rfl)];have x1:mxI false [I x,I y]=some (I (min x y)):=by simp only [mxI,Ql]
      have x2:mxI true [I x,I y]=some (I (max x y)):=by simp only [mxI,Gr]
      have a1:biI .add (I lo) (I (min x y))=some (I (lo+min x y)):=by rw [rN,wrap_i64 ⟨by omega,by omega⟩]
      have a2:biI .add (I hi) (I (max x y))=some (I (hi+max x y)):=by rw [rN,wrap_i64 ⟨by omega,by omega⟩]
      generalize lo+min x y=lo2 at *;generalize hi+max x y=hi2 at *;simp (disch:=first|omega|simp<;>omega|fail)[mA,tmD,m1,m2,x1,x2,a1,a2];refine Dm (by rfl) ?_;simpa [mA,tmD] using hq
     have hne1:biI .add (I (f:Int)) (.d (.int .i64 1))=some (I ((f:Int)+1)):=by rw [rN,wrap_i64 ⟨by omega,by omega⟩]
     have fin:nh [] 0 (mA tt d most (lo+min x y) (hi+max x y) false)=true∧rg 2 (cw (CX Y) (.ptr 1 1 0 1) (.ptr 2 1 0 1) (.ptr 3 1 0 1) (.ptr 4 1 0 1)) [] h0 k (tmX ts) (ax [] 0 h0 (mA tt d most (lo+min x y) (hi+max x y) false)):=by
      rw [hlen _ (by rfl)];exact ⟨by simp [mA,tmD,k8,kZ,dd,rX,dT,iF],ih⟩
     simp (disch:=first|omega|simp<;>omega|fail)[cw,mA,tmD];refine cd sm ?_ (by simp [ae,aB]);simp (disch:=first|omega|simp<;>omega|fail)[c1,c2];refine cd fa ?_
     have tl:=tail (fun ex h'=>match ex with
      | .normal=>nh [] 0 h'=true∧rg 2 (cw (CX Y) (.ptr 1 1 0 1) (.ptr 2 1 0 1) (.ptr 3 1 0 1) (.ptr 4 1 0 1)) [] h0 k (tmX ts) (ax [] 0 h0 h')
      | ex=>k ex h') fin
     rw [EJ (l:=[I b]) (h:=mA tt d most lo hi false) (fun q=>rfl)] at tl;simp (disch:=first|omega|simp<;>omega|fail)[Mj,hne1];refine eC (l:=[I b]) (h:=mA tt d most lo hi false) (fun q=>?_) ?_
     ·by_cases h2':t.1=2
      ·rw [if_pos h2'] at hb';rw [decide_eq_true h2',hb'];rfl
      ·rw [if_neg h2'] at hb';rw [decide_eq_false h2',hb'];rfl
     ·exact tl
theorem xC {ts:List (Int × Int)} {d:Nat} {most:Int} (hm0:0<=most) (hm:most<=10000000) (hl:∀ t ∈ ts,2<=t.1∧t.1 < 1000000∧t.2.natAbs < 9223372036854775808) (hb:ts.length<=600):CP Y F.bU [tmV ts d,I most] (neV (gj most ts (0,0))):=by
 refine tD ?_;have al:=Nc ts d;have al':CP Y F.dI [.agg [.d (.sl ts.length (ts.map tmP)),.d (.sl ts.length (ts.map tmK)),S (aa d)]] (.fn F.cj [] [.dptr (tmD ts d) 0]):=al
 have nl:=xD (d:=d) (most:=most) hm0 hm (tt:=ts) (fun ex h=>exK [(.ret,fun _ h=>
  bnd (ld1 h (.ptr 2 1 0 1)) fun v8=>
  bnd (ld1 h (.ptr 3 1 0 1)) fun v9=>
  bnd (ld1 h (.ptr 4 1 0 1)) fun v10=>
  out (neV (gj most ts (0,0))) (.tup [v8,v9,v10]) h),
  (.normal,fun _ h=>
   bnd (ld1 h (.ptr 2 1 0 1)) fun v11=>
   bnd (ld1 h (.ptr 3 1 0 1)) fun v12=>
   sp h (.ptr 2 1 0 1) [.ptr 3 1 0 1] <| stD h 1 (.ptr 2 1 0 1) v11 fun _ h=>
   stD h 1 (.ptr 3 1 0 1) v12 fun _ h=>
   stD h 1 (.ptr 4 1 0 1) (.d (.bool true)) fun _ h=>
   bnd (ld1 h (.ptr 2 1 0 1)) fun v16=>
   bnd (ld1 h (.ptr 3 1 0 1)) fun v17=>
   bnd (ld1 h (.ptr 4 1 0 1)) fun v18=>
   out (neV (gj most ts (0,0))) (.tup [v16,v17,v18]) h)] ex [] h) (mA ts d most 0 0 false) rfl ts 0 0 0 hl (by omega) (by omega) (by omega) (by omega) (by omega) (fun a ha=>by
   rw [ha];simp (disch:=first|omega|simp<;>omega|fail)[mA,tmD];refine Dm (by rfl) ?_;exact gM rfl rfl rfl) (fun ha=>by
   rw [ha];simp (disch:=first|omega|simp<;>omega|fail)[mA,tmD];exact gM rfl rfl rfl)
 simp (disch:=first|omega|simp<;>omega|fail)[bU,tmV];refine cd al' ?_ (by simp [ae,aB]);simp (disch:=first|omega|simp<;>omega|fail)[];refine ro (Pj (by omega) d) ?_;simp only [mA,tmD,Zx,Y8] at nl;exact nl
def okT (ts:List (Int × Int)):Prop:=ts.length<=600∧∀ t ∈ ts,2<=t.1∧t.1 < 1000000∧t.2.natAbs < 9223372036854775808
theorem tS {ts:List (Int × Int)} (h:okT ts):∀ t ∈ ts,ndg t.2.natAbs<=100000:=fun t ht=>
 Z4 (a6 (d:=19) (by have:=(h.2 t ht).2.2;omega) (by decide)) (by decide)
def mh (ts:List (Int × Int)):Int:=match gj 10000000 ts (0,0) with
 | none=>0
 | some a=>if 0<=a.1 then 1 else if a.2<=0 then -1 else 0
theorem K7 {ts:List (Int × Int)} {d:Nat} (h:okT ts):CP Y F.d9 [tmV ts d] (I (mh ts)):=by
 refine sG ?_;have ne:=xC (d:=d) (most:=10000000) (by decide) (by decide) h.2 h.1;have ne':CP Y F.bU [.agg [.d (.sl ts.length (ts.map tmP)),.d (.sl ts.length (ts.map tmK)),S (aa d)],I 10000000] (neV (gj 10000000 ts (0,0))):=ne;simp (disch:=first|omega|simp<;>omega|fail)[d9,tmV];refine cd ne' ?_ (by simp [ae,aB]);unfold mh
 cases gj 10000000 ts (0,0) with
 | none=>
  simp (disch:=first|omega|simp<;>omega|fail)[neV]
 | some a=>
  simp only;by_cases c1:0<=a.1
  ·rw [if_pos c1];simp (disch:=first|omega|simp<;>omega|fail)[neV,c1]
  ·rw [if_neg c1];by_cases c2:a.2<=0
   ·rw [if_pos c2];simp (disch:=first|omega|simp<;>omega|fail)[neV,c1,c2]
   ·rw [if_neg c2];simp (disch:=first|omega|simp<;>omega|fail)[neV,c1,c2]
def vV (ts:List (Int × Int)):Prop:=∀ i,i < 6->Ob (64 * 2 ^ i) ts
def BL (ts:List (Int × Int)):Nat->Nat->Option Int
 | 0,_=>none
 | r+1,n=>if 0<=(aP n ts (0,0)).1 then some 1 else if (aP n ts (0,0)).2<=0 then some (-1) else BL ts r (n * 2)
def xT (ts:List (Int × Int)):Option Int:=match ts with
 | []=>some 0
 | _=>if mh ts≠0 then some (mh ts) else BL ts 6 64
theorem FY (z:Int):0<=sgn z↔0<=z:=by unfold sgn;split <;> (try split) <;> omega
theorem sH (z:Int):sgn z<=0↔z<=0:=by unfold sgn;split <;> (try split) <;> omega
theorem xA {ts:List (Int × Int)} {d:Nat} (h:okT ts) (hl:vV ts) (k:KL) (h0:Hp) (hh:h0.length=1):∀ (r i:Nat) (s:Int),i+r=6->BL ts r (64 * 2 ^ i)=some s->(∀ h,k .ret [I s] h) ->
  lp (kh (CX Y) (.ptr 0 1 0 3)) [] h0 [I ((64 * 2 ^ i:Nat):Int)] [(1,.vars ((tmD ts d).map .d))] k
 | 0,i,s,hi,hs,hk=>by simp [BL] at hs
 | r+1,i,s,hi,hs,hk=>by
  have hn:64 * 2 ^ i<=3900:=by
   have:2 ^ i<=2 ^ 5:=Z3 (by decide) (by omega);omega
  have en:=Cj (n:=64 * 2 ^ i) (d:=d) hn (hl i (by omega)) (tS h) (by have:=h.1;omega);have en':CP Y F.bV [.agg [.d (.sl ts.length (ts.map tmP)),.d (.sl ts.length (ts.map tmK)),S (aa d)],I ((64 * 2 ^ i:Nat):Int)] (.tup [S (itoa (aP (64 * 2 ^ i) ts (0,0)).1),S (itoa (aP (64 * 2 ^ i) ts (0,0)).2)]):=en
  have hd:64 * 2 ^ i * 2=64 * 2 ^ (i+1):=by rw [Nat.pow_succ,<- Nat.mul_assoc]
  simp only [BL,hd] at hs;generalize aP (64 * 2 ^ i) ts (0,0)=e at *;have ih:=xA (d:=d) h hl k h0 hh r (i+1) s (by omega);have hm:((64 * 2 ^ i:Nat):Int) * 2=((64 * 2 ^ (i+1):Nat):Int):=by rw [<- hd];omega
  generalize 64 * 2 ^ (i+1)=m2 at *;generalize 64 * 2 ^ i=m at *;have s1:=iP e.1;have s2:=iP e.2;have n1:=FY e.1;have n2:=sH e.2;refine ai ?_;simp (disch:=first|omega|simp<;>omega|fail)[kh,tmD];refine cd en' ?_ (by simp [ae,aB]);simp (disch:=first|omega|simp<;>omega|fail)[];refine cd s1 ?_ (by simp [ae,aB]);by_cases c1:0<=e.1
  ·rw [if_pos c1] at hs;simp only [Z9] at hs;subst hs;have c1':0<=sgn e.1:=n1.2 c1;simp (disch:=first|omega|simp<;>omega|fail)[c1'];exact hk _
  ·rw [if_neg c1] at hs;have c1':¬ 0<=sgn e.1:=fun x=>c1 (n1.1 x)
   simp (disch:=first|omega|simp<;>omega|fail)[c1'];refine cd s2 ?_ (by simp [ae,aB]);by_cases c2:e.2<=0
   ·rw [if_pos c2] at hs;simp only [Z9] at hs;subst hs;have c2':sgn e.2<=0:=n2.2 c2;simp (disch:=first|omega|simp<;>omega|fail)[c2'];exact hk _
   ·rw [if_neg c2] at hs;have c2':¬ sgn e.2<=0:=fun x=>c2 (n2.1 x)
    have ih:=ih hs hk;simp (disch:=first|omega|simp<;>omega|fail)[c2',hm];exact ih
theorem Dz {ts:List (Int × Int)} {d:Nat} (h:okT ts) (hl:vV ts) {z:Int} (hs:xT ts=some z):CP Y F.dj [tmV ts d] (I z):=by
 refine tC ?_;have qo:=K7 (d:=d) h;have qo':CP Y F.d9 [.agg [.d (.sl ts.length (ts.map tmP)),.d (.sl ts.length (ts.map tmK)),S (aa d)]] (I (mh ts)):=qo;cases hts:ts with
 | nil=>
  subst hts;simp only [xT,Z9] at hs;subst hs;simp (disch:=first|omega|simp<;>omega|fail)[dj,tmV,am]
 | cons t r=>
  have hne:¬ ts=[]:=by rw [hts];simp
  have hs':(if mh ts≠0 then some (mh ts) else BL ts 6 64)=some z:=by rw [hts] at hs ⊢;exact hs
  rw [<- hts];have ll:am (.d (.sl ts.length (ts.map tmP)))=some (I ts.length):=rfl;by_cases hq:mh ts=0
  ·rw [if_neg (by simpa using hq)] at hs'
   have sl:=xA (d:=d) h hl (exK [(.ret,fun l9 h=>out (I z) (ge l9 0) h)]) [(1,.vars ((tmD ts d).map .d))] rfl 6 0 z rfl hs' (fun h=>by
    simp (disch:=first|omega|simp<;>omega|fail)[])
   simp only [tmD,Zx,Y8] at sl;rw [hq] at qo';simp (disch:=first|omega|simp<;>omega|fail)[dj,tmV,ll,hne];refine cd qo' ?_ (by simp [ae,aB]);simp (disch:=first|omega|simp<;>omega|fail)[];exact sl
  ·rw [if_pos (by simpa using hq)] at hs';simp only [Z9] at hs';subst hs';simp (disch:=first|omega|simp<;>omega|fail)[dj,tmV,ll,hne];refine cd qo' ?_ (by simp [ae,aB]);simp (disch:=first|omega|simp<;>omega|fail)[hq]
def tq (p:List Int) (s:List Q):List (Int × Int):=cM (fF 1 s) p s
def uZ (p:List Int) (s:List Q) (z:Int):Prop:=okT (tq p s)∧vV (tq p s)∧xT (tq p s)=some z
theorem J3 {p:List Int} {s:List Q} (hp:pcB p=0) (hN:p.length < 1000000) (hl:s.length=p.length) (hs:okS s):CP Y F.kr [lst di p,szV s] (I 0):=by
 have:=KF (p:=p) (s:=s.map tx) (by omega) (fun x hx=>by
  obtain ⟨y,hy,rfl⟩:=Zd.1 hx;obtain ⟨l1,l2⟩:=Bp (hs y hy).2;omega) (by simp;omega)
 unfold siB scB at this;rw [if_pos hp,List.length_map,if_pos hl,Bs hs] at this;exact this
theorem Pf {p:List Int} {s:List Q} {z:Int} (hp:pcB p=0) (hN:p.length < 3000) (hl:s.length=p.length) (hs:okS s) (hz:uZ p s z):CP Y F.mR [lst di p,szV s] (.tup [I z,I 0]):=by
 refine Dy ?_;obtain ⟨h1,h2,h3⟩:=hz;have ck:=J3 hp (by omega) hl hs;have to_:=mW (p:=p) (s:=s) (K:=30) (by omega) hl.symm hs (by omega) (by decide);have si:=Dz (d:=fF 1 s) h1 h2 h3;simp (disch:=first|omega|simp<;>omega|fail)[mR];refine cd ck ?_ (by simp [ae,szV,dp]);simp (disch:=first|omega|simp<;>omega|fail)[];refine cd to_ ?_ (by simp [ae,szV,dp])
 simp (disch:=first|omega|simp<;>omega|fail)[];refine cd si ?_ (by simp [ae,aB,tmV]);exact aj rfl rfl
def dfS (p:List Int) (a b:List Q):List Q:=j3 p.length [a,b] [(1,1),(-1,1)]
theorem HJ:okK 1 [(1,1),(-1,1)]:=fun x hx=>by
 simp at hx;rcases hx with rfl | rfl
 ·exact ⟨⟨by decide,by decide⟩,a6 (by decide) (by decide),a6 (by decide) (by decide)⟩
 ·exact ⟨⟨by decide,by decide⟩,a6 (by decide) (by decide),a6 (by decide) (by decide)⟩
theorem GR {p:List Int} {a b:List Q} {z:Int} (hN:p.length < 1000) (ha:a.length=p.length) (hb:b.length=p.length) (oa:okS a) (ob:okS b) (hz:uZ p (dfS p a b) z):CP Y F.jJ [lst di p,szV a,szV b] (I z):=by
 refine xQ ?_;obtain ⟨h1,h2,h3⟩:=hz
 have hab:∀ s ∈ [a,b],s.length=p.length∧okK 30 s:=fun s hs=>by
  simp at hs;rcases hs with rfl | rfl
  ·exact ⟨ha,oa⟩
  ·exact ⟨hb,ob⟩
 have su:=xG (n:=p.length) (l:=[a,b]) (fs:=[(1,1),(-1,1)]) (Ks:=30) (Kk:=1) (by omega) (by simp) rfl (by decide) (by simp) hab HJ;have oK:okK 65 (dfS p a b):=wT (Ks:=30) (Kk:=1) (Ko:=1) (tu _) (fun s hs=>(hab s hs).2) HJ
 have hl:(dfS p a b).length=p.length:=by
  unfold dfS j3;rw [mX (fun s hs=>by simpa using (hab s hs).1)];simp
 have to_:=mW (p:=p) (s:=dfS p a b) (K:=65) (by omega) hl.symm oK (by omega) (by decide);have si:=Dz (d:=fF 1 (dfS p a b)) h1 h2 h3;have l1:∀ H,dt 2 [D.pl (Value.slice none 0 0)] [(0,szV a),(1,szV b)] H=some ([szD a,szD b],H):=fun H=>Jw ..
 have l2:∀ H,dt 2 [D.str [],D.str []] [(0,.agg (qT (1,1))),(1,.agg (qT (-1,1)))] H=some (aK (tx (1,1))++aK (tx (-1,1)),H):=fun H=>LD (1,1) (-1,1) H
 have l3:am (lst di p)=some (I p.length):=rfl;simp (disch:=first|omega|simp<;>omega|fail)[jJ,l1,l3];refine cd (fh (z:=1) (by omega) (by omega)) ?_;simp (disch:=first|omega|simp<;>omega|fail)[];refine cd (fh (z:=-1) (by omega) (by omega)) ?_;simp (disch:=first|omega|simp<;>omega|fail)[l2];refine cd (v:=szV (dfS p a b)) su ?_ (by simp [ae,aB,norm])
 simp (disch:=first|omega|simp<;>omega|fail)[];refine cd to_ ?_ (by simp [ae,szV,dp]);simp (disch:=first|omega|simp<;>omega|fail)[];refine cd si ?_ (by simp [ae,aB,tmV]);simp (disch:=first|omega|simp<;>omega|fail)[]
theorem zn {p:List Int} {a b:List Q} {z:Int} (hp:pcB p=0) (hN:p.length < 1000) (ha:a.length=p.length) (hb:b.length=p.length) (oa:okS a) (ob:okS b) (hz:uZ p (dfS p a b) z):CP Y F.iD [lst di p,szV a,szV b] (.tup [I z,I 0]):=by
 refine xR ?_
 have ca:=qQ (p:=p) (l:=[a,b]) (by omega) (by simp) (fun s hs=>by
  simp at hs;rcases hs with rfl | rfl
  ·exact ⟨oa,by omega⟩
  ·exact ⟨ob,by omega⟩)
 rw [if_pos hp,xn (n:=p.length) (l:=[a,b]) fun s hs=>by
  simp at hs;rcases hs with rfl | rfl
  ·exact ha
  ·exact hb] at ca
 have co:=GR hN ha hb oa ob hz;have l1:∀ H,dt 2 [D.pl (Value.slice none 0 0)] [(0,szV a),(1,szV b)] H=some ([szD a,szD b],H):=fun H=>Jw ..
 simp (disch:=first|omega|simp<;>omega|fail)[iD,l1];refine cd (v:=I 0) ca ?_ (by simp [ae,aB,norm]);simp (disch:=first|omega|simp<;>omega|fail)[];refine cd co ?_ (by simp [ae,szV,dp]);exact aj rfl rfl
def uL (z:Int):Int:=max z (-z) * (2 * max z 0 - 1)
def Nh (p:List Int) (s:List Q) (z:Int):List Q:=j3 p.length [s] [(uL z,1)]
theorem Ng {p:List Int} {s:List Q} {z:Int} (hp:pcB p=0) (hN:p.length < 1000) (hl:s.length=p.length) (hs:okS s) (hz:uZ p s z) (h1 : -1<=z) (h2:z<=1):CP Y F.m8 [lst di p,szV s] (.tup [szV (Nh p s z),I 0]):=by
 refine FX ?_;have si:=Pf hp (by omega) hl hs hz
 have hk:uL z=z:=by
  rcases (show z = -1∨z=0∨z=1 by omega) with rfl | rfl | rfl <;> rfl
 have hkk:okK 1 [(uL z,1)]:=fun x hx=>by
  simp at hx;subst hx;exact ⟨⟨by simp,by simp⟩,a6 (by rw [hk];omega) (by decide),a6 (by simp) (by decide)⟩
 have su:=xG (n:=p.length) (l:=[s]) (fs:=[(uL z,1)]) (Ks:=30) (Kk:=1) (by omega) (by simp) rfl (by decide) (by simp) (fun t ht=>by
  simp at ht;subst ht;exact ⟨hl,hs⟩) hkk
 have su':CP Y F.js [I p.length,lst szD [s],szV [(uL z,1)]] (szV (Nh p s z)):=su;have l1:∀ H,dt 1 [D.pl (Value.slice none 0 0)] [(0,szV s)] H=some ([szD s],H):=fun H=>Jy ..
 have l2:∀ H,dt 1 [D.str [],D.str []] [(0,.agg (qT (uL z,1)))] H=some (aK (tx (uL z,1)),H):=fun H=>LE (uL z,1) H
 have l3:am (lst di p)=some (I p.length):=rfl;have m1:mxI true [I z,I (-z)]=some (I (max z (-z))):=by simp only [mxI,Gr]
 have m2:mxI true [I z,I 0]=some (I (max z 0)):=by simp only [mxI,Gr]
 have n1:biI .mul (.d (.int .i64 2)) (I (max z 0))=some (I (2 * max z 0)):=by rw [kf,wrap_i64 ⟨by omega,by omega⟩]
 have n2:biI .sub (I (2 * max z 0)) (.d (.int .i64 1))=some (I (2 * max z 0 - 1)):=by rw [pD,wrap_i64 ⟨by omega,by omega⟩]
 have n3:biI .mul (I (max z (-z))) (I (2 * max z 0 - 1))=some (I (uL z)):=by
  rw [kf,wrap_i64 (by rw [show max z (-z) * (2 * max z 0 - 1)=uL z from rfl,hk];omega)];rfl
 have nb:=fh (z:=uL z) (by rw [hk];omega) (by rw [hk];omega)
 have neg:unV .neg (I z)=some (I (-z)):=by
  rcases (show z = -1∨z=0∨z=1 by omega) with rfl | rfl | rfl <;> rfl
 simp (disch:=first|omega|simp<;>omega|fail)[m8];refine cd si ?_ (by simp [ae,szV,dp]);clear su;generalize uL z=az at *;generalize max z (-z)=a1 at *;generalize max z 0=a2 at *;generalize 2 * a2 - 1=a4 at *;simp (disch:=first|omega|simp<;>omega|fail)[l1,neg,m1,m2,n1,n2,n3];refine cd nb ?_;simp (disch:=first|omega|simp<;>omega|fail)[l2]
 refine cd (v:=szV (Nh p s z)) su' ?_ (by simp [ae,aB,norm]);exact aj (ou _ _) rfl
theorem wc {a b:Int} (hb:0 < b) (ha1 : -4000000000000000000<=a) (ha2:a<=4000000000000000000) (hb2:b<=4000000000000000000):CP Y F.dF [I a,I b] (I (a / b)):=by
 refine ww ?_;by_cases h:a < 0
 ·have n1:unV .neg (I a)=some (I (-a)):=by rw [qY,wrap_i64 ⟨by omega,by omega⟩]
  have n2:biI .add (I (-a)) (I b)=some (I (-a+b)):=by rw [rN,wrap_i64 ⟨by omega,by omega⟩]
  have n3:biI .sub (I (-a+b)) (.d (.int .i64 1))=some (I (-a+b - 1)):=by rw [pD,wrap_i64 ⟨by omega,by omega⟩]
  have hq0:0<=(-a+b - 1) / b:=Int.ediv_nonneg (by omega) (by omega);have hq1:(-a+b - 1) / b<=-a+b - 1:=Int.ediv_le_self _ (by omega)
  have e : -((-a+b - 1) / b)=a / b:=by
   have h1:=Int.emod_add_mul_ediv (-a+b - 1) b;have h2:=Int.emod_nonneg (-a+b - 1) (by omega:b≠0);have h3:=Int.emod_lt_of_pos (-a+b - 1) hb;symm;rw [Int.ediv_eq_iff_of_pos hb];generalize (-a+b - 1) / b=q at *;generalize (-a+b - 1) % b=r at *;have : -q * b = -(b * q):=by rw [Wr,Yg]
   rw [this];omega
  obtain ⟨w,hw⟩:∃ w,w = -a+b - 1:=⟨_,rfl⟩;rw [<- hw] at n3 hq0 hq1 e;have td:w.tdiv b=w / b:=Zv (by omega);obtain ⟨q,hq⟩:∃ q,q=w / b:=⟨_,rfl⟩;rw [<- hq] at hq0 hq1 e td;have n5:unV .neg (I q)=some (I (-q)):=by rw [qY,wrap_i64 ⟨by omega,by omega⟩]
  have n4:biI .quo (I w) (I b)=some (I q):=by rw [Iw (by omega),td,wrap_i64 ⟨by omega,by omega⟩]
  simp (disch:=first|omega|simp<;>omega|fail)[dF,h,n1,n2,n3,n4,n5];exact bG e
 ·have td:a.tdiv b=a / b:=Zv (by omega);have hq0:0<=a / b:=Int.ediv_nonneg (by omega) (by omega);have hq1:a / b<=a:=Int.ediv_le_self _ (by omega);have n4:biI .quo (I a) (I b)=some (I (a / b)):=by rw [Iw (by omega),td,wrap_i64 ⟨by omega,by omega⟩]
  simp (disch:=first|omega|simp<;>omega|fail)[dF,h,n4] <;> exact bG rfl
def yf (x y:Int × Int) (d g:Int):Option Int:=
 let z:(Int × Int) × (Int × Int):=if y.2<=0 then ((-x.2,-x.1),(-y.2,-y.1)) else (x,y)
 if z.2.1<=0 then none else
  let low:=if z.1.1 < 0 then z.2.1 else z.2.2
  let high:=if z.1.2 < 0 then z.2.2 else z.2.1
  if z.1.1 * g / (low * d)=z.1.2 * g / (high * d) then some (z.1.1 * g / (low * d)) else none
def BP (tx ty:List (Int × Int)) (d g:Nat):Option Int:=match gj 100000 tx (0,0),gj 100000 ty (0,0) with
 | some x,some y=>if 10000 < d∨10000 < g then none else yf x y d g
 | _,_=>none
theorem AU {p a:Nat} (hp:2<=p) (hp2:p < 128) (h:r9 p=some a):a < 469762048:=by
 obtain ⟨hk0,hpk,hk1⟩:=kQ (n:=p) (by omega)
 have hk20:aY p<=7:=by
  have:2 ^ (aY p - 1) < 2 ^ 7:=by omega
  have:=(Y6 (by decide:1 < 2)).1 this;omega
 have:=rJ _ _ _ _ _ h;have h2:(aY p - 1+1) * 2 ^ 26<=7 * 2 ^ 26:=Z1 _ (by omega);omega
theorem vh {most:Int} (hm0:0<=most):∀ (ts:List (Int × Int)) (lo hi C:Int) (a:Int × Int),(∀ t ∈ ts,2<=t.1∧t.1 < 128)->lo<=hi->-C<=lo->hi<=C->gj most ts (lo,hi)=some a ->
  a.1<=a.2∧-(C+ts.length * (most * 469762049))<=a.1∧a.2<=C+ts.length * (most * 469762049)
 | [],lo,hi,C,a,hl,h1,h2,h3,ha=>by
  simp only [gj,Z9] at ha;subst ha;simp;omega
 | t :: ts,lo,hi,C,a,hl,h1,h2,h3,ha=>by
  obtain ⟨l1,l2⟩:=hl t (by simp);simp only [gj] at ha;split at ha
  ·cases ha
  ·rename_i hc;split at ha
   ·cases ha
   ·rename_i f hf;have hflt:=AU (p:=t.1.toNat) (by omega) (by omega) hf;obtain ⟨b,hb'⟩:∃ b:Int,b=(if t.1=2 then (f:Int) else f+1):=⟨_,rfl⟩;rw [<- hb'] at ha;have hbb:(f:Int)<=b∧b<=f+1:=by subst hb';split <;> omega
    have bd:∀ z:Int,0<=z->z<=469762049->-(most * 469762049)<=t.2 * z∧t.2 * z<=most * 469762049:=by
     intro z hz0 hz;have a1:t.2 * z<=most * z:=Zq (by omega) hz0;have a2:(-most) * z<=t.2 * z:=Zq (by omega) hz0;have a3:most * z<=most * 469762049:=Ys hz hm0;rw [Wr] at a2;omega
    have bx:=bd f (by omega) (by omega);have by_:=bd b (by omega) (by omega);have:=vh hm0 ts _ _ (C+most * 469762049) a (fun t ht=>hl t (by simp [ht])) (by omega) (by omega) (by omega) ha
    have e:((t :: ts).length:Int) * (most * 469762049)=most * 469762049+ts.length * (most * 469762049):=by
     rw [List.length_cons,Int.natCast_add,Wq];omega
    rw [e];omega
def Gh (ts:List (Int × Int)):Prop:=ts.length<=8∧∀ t ∈ ts,2<=t.1∧t.1 < 128∧t.2.natAbs < 9223372036854775808
theorem Qi (r:Option (Int × Int)):neV r=.tup [I (r.getD (0,0)).1,I (r.getD (0,0)).2,B r.isSome]:=by cases r <;> rfl
def Je (x y:Int × Int) (d g:Int):Int × Bool:=
 let z:(Int × Int) × (Int × Int):=if y.2<=0 then ((-x.2,-x.1),(-y.2,-y.1)) else (x,y)
 if z.2.1<=0 then (0,false) else
  let low:=if z.1.1 < 0 then z.2.1 else z.2.2
  let high:=if z.1.2 < 0 then z.2.2 else z.2.1
  (z.1.1 * g / (low * d),decide (z.1.1 * g / (low * d)=z.1.2 * g / (high * d)))
theorem Ga (x y:Int × Int) (d g:Int):yf x y d g=if (Je x y d g).2=true then some (Je x y d g).1 else none:=by
 unfold yf Je;simp only;generalize (if y.2<=0 then ((-x.2,-x.1),(-y.2,-y.1)) else (x,y))=z;by_cases h:z.2.1<=0
 ·simp [h]
 ·simp only [if_neg h,decide_eq_true_eq]
def sO (X1 X2 Y1 Y2 d g:Int):Int × Bool:=if Y1<=0 then (0,false) else
 (X1 * g / ((if X1 < 0 then Y1 else Y2) * d),decide (X1 * g / ((if X1 < 0 then Y1 else Y2) * d)=X2 * g / ((if X2 < 0 then Y2 else Y1) * d)))
theorem K6 (x y:Int × Int) (d g:Int):Je x y d g=if y.2<=0 then sO (-x.2) (-x.1) (-y.2) (-y.1) d g else sO x.1 x.2 y.1 y.2 d g:=by
 unfold Je;by_cases h:y.2<=0
 ·simp only [if_pos h];rfl
 ·simp only [if_neg h];rfl
theorem N4 {X g:Int} (h1 : -400000000000000<=X) (h2:X<=400000000000000) (g0:0 < g) (g1:g<=10000) : -4000000000000000000<=X * g∧X * g<=4000000000000000000:=by
 have a1:X * g<=400000000000000 * g:=Zq h2 (by omega);have a2:(-400000000000000) * g<=X * g:=Zq h1 (by omega);omega
theorem DZ {X1 X2 Y1 Y2 d g:Int} (h:Hp) (x1 : -400000000000000<=X1) (x2:X1<=400000000000000) (x3 : -400000000000000<=X2) (x4:X2<=400000000000000) (y0:Y1<=Y2) (y1 : -400000000000000<=Y1) (y2:Y2<=400000000000000)
  (d0:0 < d) (d1:d<=10000) (g0:0 < g) (g1:g<=10000) (q:V->Hp->Prop) (hq:q (.tup [I (sO X1 X2 Y1 Y2 d g).1,B (sO X1 X2 Y1 Y2 d g).2]) h) :
  bnd (biI .leq (I Y1) (.d (.int .i64 0))) fun v42=>
   cnd v42 (
    q (.tup [(.d (.int .i64 0)),(.d (.bool false))]) h) (
    bnd (biI .lss (I X1) (.d (.int .i64 0))) fun v43=>
    jn (fun l44 h=>
     bnd (biI .lss (I X2) (.d (.int .i64 0))) fun v46=>
     jn (fun l47 h=>
      bnd (biI .mul (I X1) (I g)) fun v49=>
      bnd (biI .mul (ge l44 0) (I d)) fun v50=>
      cal (CX Y).p h (.fn F.dF [] []) [v49,v50] fun v51 h=>
      bnd (biI .mul (I X2) (I g)) fun v52=>
      bnd (biI .mul (ge l47 0) (I d)) fun v53=>
      cal (CX Y).p h (.fn F.dF [] []) [v52,v53] fun v54 h=>
      bnd (biI .eql v51 v54) fun v55=>
      q (.tup [v51,v55]) h) fun q48=>
      cnd v46 (
       q48 [I Y2] h) (
       q48 [I Y1] h)) fun q45=>
     cnd v43 (
      q45 [I Y1] h) (
      q45 [I Y2] h)):=by
 unfold sO at hq;by_cases c:Y1<=0
 ·rw [if_pos c] at hq;simp (disch:=first|omega|simp<;>omega|fail)[c];exact hq
 ·rw [if_neg c] at hq;obtain ⟨lo,hlo⟩:∃ z,z=(if X1 < 0 then Y1 else Y2):=⟨_,rfl⟩;obtain ⟨hi,hhi⟩:∃ z,z=(if X2 < 0 then Y2 else Y1):=⟨_,rfl⟩;rw [<- hlo,<- hhi] at hq;have l1:0 < lo∧lo<=400000000000000:=by subst hlo;split <;> omega
  have l2:0 < hi∧hi<=400000000000000:=by subst hhi;split <;> omega
  have p1:=N4 x1 x2 g0 g1;have p2:=N4 (X:=lo) (by omega) (by omega) d0 d1;have p3:=N4 x3 x4 g0 g1;have p4:=N4 (X:=hi) (by omega) (by omega) d0 d1;have z1:0 < lo * d:=Xb l1.1 d0;have z2:0 < hi * d:=Xb l2.1 d0;have w1:=wc (a:=X1 * g) (b:=lo * d) z1 p1.1 p1.2 p2.2;have w2:=wc (a:=X2 * g) (b:=hi * d) z2 p3.1 p3.2 p4.2
  have m1:biI .mul (I X1) (I g)=some (I (X1 * g)):=by rw [kf,wrap_i64 ⟨by omega,by omega⟩]
  have m2:biI .mul (I lo) (I d)=some (I (lo * d)):=by rw [kf,wrap_i64 ⟨by omega,by omega⟩]
  have m3:biI .mul (I X2) (I g)=some (I (X2 * g)):=by rw [kf,wrap_i64 ⟨by omega,by omega⟩]
  have m4:biI .mul (I hi) (I d)=some (I (hi * d)):=by rw [kf,wrap_i64 ⟨by omega,by omega⟩]
  generalize X1 * g / (lo * d)=r1 at *;generalize X2 * g / (hi * d)=r2 at *;generalize X1 * g=u1 at *;generalize X2 * g=u2 at *;generalize lo * d=v1 at *;generalize hi * d=v2 at *;simp (disch:=first|omega|simp<;>omega|fail)[c];refine eC (l:=[I lo]) (h:=h) (fun q=>?_) ?_
  ·by_cases c1:X1 < 0
   ·rw [decide_eq_true c1,hlo,if_pos c1];rfl
   ·rw [decide_eq_false c1,hlo,if_neg c1];rfl
  ·simp (disch:=first|omega|simp<;>omega|fail)[];refine eC (l:=[I hi]) (h:=h) (fun q=>?_) ?_
   ·by_cases c1:X2 < 0
    ·rw [decide_eq_true c1,hhi,if_pos c1];rfl
    ·rw [decide_eq_false c1,hhi,if_neg c1];rfl
   ·simp (disch:=first|omega|simp<;>omega|fail)[m1,m2];refine cd w1 ?_;simp (disch:=first|omega|simp<;>omega|fail)[m3,m4];refine cd w2 ?_;simp (disch:=first|omega|simp<;>omega|fail)[];exact hq
theorem DY {tx ty:List (Int × Int)} {d g:Nat} (hx:Gh tx) (hy:Gh ty) (hd:d < 9223372036854775808) (hg:g < 9223372036854775808) (hd0:0 < d) (hg0:0 < g) :
  ∃ (q:Int) (b:Bool),CP Y F.c8 [tmV tx d,tmV ty g] (.tup [I q,B b])∧(b=true->BP tx ty d g=some q)∧(b=false->BP tx ty d g=none):=by
 have nx:=xC (d:=d) (most:=100000) (by decide) (by decide) (fun t ht=>⟨(hx.2 t ht).1,by have:=(hx.2 t ht).2.1;omega,(hx.2 t ht).2.2⟩) (by have:=hx.1;omega);have ny:=xC (d:=g) (most:=100000) (by decide) (by decide) (fun t ht=>⟨(hy.2 t ht).1,by have:=(hy.2 t ht).2.1;omega,(hy.2 t ht).2.2⟩) (by have:=hy.1;omega);have sd:=uW (z:=(d:Int)) (by omega)
 have sg:=uW (z:=(g:Int)) (by omega);rw [bW] at sd sg;rw [Qi] at nx ny;have bx:=fun a=>vh (most:=100000) (by decide) tx 0 0 0 a (fun t ht=>⟨(hx.2 t ht).1,(hx.2 t ht).2.1⟩) (by omega) (by omega) (by omega)
 have by_:=fun a=>vh (most:=100000) (by decide) ty 0 0 0 a (fun t ht=>⟨(hy.2 t ht).1,(hy.2 t ht).2.1⟩) (by omega) (by omega) (by omega)
 have lx:=hx.1;have ly:=hy.1;unfold BP;generalize gj 100000 tx (0,0)=rx at *;generalize gj 100000 ty (0,0)=ry at *;obtain ⟨xl,hxl⟩:∃ z,z=(rx.getD (0,0)).1:=⟨_,rfl⟩;obtain ⟨xh,hxh⟩:∃ z,z=(rx.getD (0,0)).2:=⟨_,rfl⟩;obtain ⟨yl,hyl⟩:∃ z,z=(ry.getD (0,0)).1:=⟨_,rfl⟩;obtain ⟨yh,hyh⟩:∃ z,z=(ry.getD (0,0)).2:=⟨_,rfl⟩;obtain ⟨one,h1⟩:∃ z,z=rx.isSome:=⟨_,rfl⟩
 obtain ⟨two,h2⟩:∃ z,z=ry.isSome:=⟨_,rfl⟩;rw [<- hxl,<- hxh,<- h1] at nx;rw [<- hyl,<- hyh,<- h2] at ny;have nx':CP Y F.bU [.agg [.d (.sl tx.length (tx.map tmP)),.d (.sl tx.length (tx.map tmK)),S (aa d)],I 100000] (.tup [I xl,I xh,B one]):=nx
 have ny':CP Y F.bU [.agg [.d (.sl ty.length (ty.map tmP)),.d (.sl ty.length (ty.map tmK)),S (aa g)],I 100000] (.tup [I yl,I yh,B two]):=ny;have walk:∀ v:V,(c8 (CX Y) (tmV tx d) (tmV ty g) (out v))->CP Y F.c8 [tmV tx d,tmV ty g] v:=fun v h=>wt h
 have e10:(10000:Int) < (d:Int)↔10000 < d:=by omega
 have e11:(10000:Int) < (g:Int)↔10000 < g:=by omega
 by_cases hc:one=true∧two=true∧¬ (10000:Int) < d∧¬ (10000:Int) < g
 ·obtain ⟨c1,c2,c3,c4⟩:=hc;subst c1;subst c2;obtain ⟨x,rfl⟩:=Xx.1 h1.symm;obtain ⟨y,rfl⟩:=Xx.1 h2.symm;have bx:=bx x rfl;have by_:=by_ y rfl;simp only [Option.getD_some] at hxl hxh hyl hyh;simp only [if_neg (show ¬ (10000 < d∨10000 < g) by omega)];obtain ⟨r,hr⟩:∃ r,r=Je x y d g:=⟨_,rfl⟩;refine ⟨r.1,r.2,walk _ ?_,fun h=>?_,fun h=>?_⟩
  ·simp (disch:=first|omega|simp<;>omega|fail)[c8,tmV];refine cd nx' ?_ (by simp [ae,aB]);simp (disch:=first|omega|simp<;>omega|fail)[];refine cd ny' ?_ (by simp [ae,aB]);simp (disch:=first|omega|simp<;>omega|fail)[];refine cd sd ?_ (by simp [ae,aB]);simp (disch:=first|omega|simp<;>omega|fail)[];refine cd sg ?_ (by simp [ae,aB])
   simp (disch:=first|omega|simp<;>omega|fail)[c3,c4];rw [K6] at hr;by_cases c5:yh<=0
   ·rw [if_pos (by omega)] at hr;have n1:unV .neg (I xh)=some (I (-xh)):=by rw [qY,wrap_i64 ⟨by omega,by omega⟩]
    have n2:unV .neg (I xl)=some (I (-xl)):=by rw [qY,wrap_i64 ⟨by omega,by omega⟩]
    have n3:unV .neg (I yh)=some (I (-yh)):=by rw [qY,wrap_i64 ⟨by omega,by omega⟩]
    have n4:unV .neg (I yl)=some (I (-yl)):=by rw [qY,wrap_i64 ⟨by omega,by omega⟩]
    have rs:=fun h=>DZ (X1:=-xh) (X2:=-xl) (Y1:=-yh) (Y2:=-yl) (d:=d) (g:=g) h (by omega) (by omega) (by omega) (by omega) (by omega) (by omega) (by omega) (by omega) (by omega) (by omega) (by omega) (out (.tup [I r.1,B r.2])) (by
     rw [hr,hxl,hxh,hyl,hyh];exact aj rfl rfl)
    rw [decide_eq_true c5];refine bm ?_;refine Eq.mpr (Io _ _) ?_;rw [n1,n2,n3,n4];exact rs _
   ·rw [if_neg (by omega)] at hr
    have rs:=fun h=>DZ (X1:=xl) (X2:=xh) (Y1:=yl) (Y2:=yh) (d:=d) (g:=g) h (by omega) (by omega) (by omega) (by omega) (by omega) (by omega) (by omega) (by omega) (by omega) (by omega) (by omega) (out (.tup [I r.1,B r.2])) (by
     rw [hr,hxl,hxh,hyl,hyh];exact aj rfl rfl)
    rw [decide_eq_false c5];refine bm ?_;refine Eq.mpr (Ip _ _) ?_;exact rs _
  ·rw [Ga,<- hr,h];rfl
  ·rw [Ga,<- hr,h];rfl
 ·refine ⟨0,false,walk _ ?_,fun h=>(by cases h),fun _=>?_⟩
  ·simp (disch:=first|omega|simp<;>omega|fail)[c8,tmV];refine cd nx' ?_ (by simp [ae,aB]);simp (disch:=first|omega|simp<;>omega|fail)[];refine cd ny' ?_ (by simp [ae,aB]);simp (disch:=first|omega|simp<;>omega|fail)[];refine cd sd ?_ (by simp [ae,aB]);simp (disch:=first|omega|simp<;>omega|fail)[];refine cd sg ?_ (by simp [ae,aB]);cases one with
   | false=>
    simp (disch:=first|omega|simp<;>omega|fail)[];exact aj rfl rfl
   | true=>
    cases two with
    | false=>
     simp (disch:=first|omega|simp<;>omega|fail)[];exact aj rfl rfl
    | true=>
     by_cases c3:(10000:Int) < d
     ·simp (disch:=first|omega|simp<;>omega|fail)[c3];exact aj rfl rfl
     ·by_cases c4:(10000:Int) < g
      ·simp (disch:=first|omega|simp<;>omega|fail)[c3,c4];exact aj rfl rfl
      ·exact absurd ⟨rfl,rfl,c3,c4⟩ hc
  ·cases rx with
   | none=>rfl
   | some x=>
    cases ry with
    | none=>rfl
    | some y=>
     have:10000 < d∨10000 < g:=by
      by_cases c3:(10000:Int) < d
      ·exact .inl (by omega)
      ·by_cases c4:(10000:Int) < g
       ·exact .inr (by omega)
       ·exact absurd ⟨h1,h2,c3,c4⟩ hc
     simp only [if_pos this]
def gL:Q->List Q->List Q->Q
 | k,x :: a,y :: b=>gL (if y.1=0 then k else wA x y) a b
 | k,_,_=>k
def jk (k:Q):List Q->List Q->Bool
 | x :: a,y :: b=>decide (kM k y=x) && jk k a b
 | _,_=>true
def raH (x0:Bk) (e0:Nat) (k:Tx):Hp:=[(e0,x0),(1,.vars [S k.1,S k.2]),(0,.none),(0,.none)]
theorem HQ {n d:Int} (h:d≠0):okQ (qI n d):=by
 unfold qI;split <;> exact t6 _ (by omega)
theorem Qo {n d:Int} {K:Nat} (h1:ndg n.natAbs<=K) (h2:ndg d.natAbs<=K):qL K (qI n d):=by
 unfold qI;split
 ·exact B9 (by rwa [X9]) h2
 ·exact B9 h1 h2
theorem P8 {a b:Q} {K L:Nat} (ha:qL K a) (hb:qL L b):qL (K+L) (wA a b):=by
 refine Qo ?_ ?_
 ·have:=cF (z:=a.1) (w:=(b.2:Int));rw [Int.natAbs_natCast] at this;have:=ha.1;have:=hb.2;omega
 ·have:=cF (z:=(a.2:Int)) (w:=b.1);rw [Int.natAbs_natCast] at this;have:=ha.2;have:=hb.1;omega
theorem NK {a b:Q} (ha:okQ a) (hb:b.1≠0):okQ (wA a b):=HQ (W5 (by have:=ha.1;omega) hb)
theorem K4 {a b:List Q} {K:Nat} (hK:K<=40000) (hN:b.length < 1000000) (hab:a.length=b.length) (ha:okK K a) (hb:okK K b) (k:KL) (k0:Tx) (e0:Nat) (x0:Bk) (hx0:offB [2] x0=true):∀ (qb pb qa pa:List Q) (c:Q),pb++qb=b->pa++qa=a->pa.length=pb.length->qa.length=qb.length ->
  k (.exit 0) [] (raH x0 e0 (tx (gL c qa qb))) ->
  lp (j4 (CX Y) (szV a) (.ptr 1 1 0 2) (szV b) (I b.length)) [2] (raH x0 e0 k0) [I pb.length] (raH x0 e0 (tx c)) k
 | [],pb,qa,pa,c,h1,h2,h3,h4,hk=>by
  simp at h1;subst h1;have:qa=[]:=Zl h4;subst this;refine ai ?_;simp (disch:=first|omega|simp<;>omega|fail)[j4];exact hk
 | y :: qb,pb,[],pa,c,h1,h2,h3,h4,hk=>by simp at h4
 | y :: qb,pb,x :: qa,pa,c,h1,h2,h3,h4,hk=>by
  have hal:pb.length < b.length:=by subst h1;simp
  have hal2:pb.length < a.length:=by omega
  obtain ⟨y1,y2⟩:=hb y (by subst h1;simp);obtain ⟨x1,x2⟩:=ha x (by subst h2;simp);have hy:nth ([],[]) (b.map tx) pb.length=tx y:=by subst h1;exact jz ..
  have hx:nth ([],[]) (a.map tx) pb.length=tx x:=by subst h2;rw [<- h3];exact jz ..
  have i1:=fun h:Hp=>jN aK aI (b.map tx) h (k:=.i64) (i:=(pb.length:Int)) (by omega) (by simp;omega)
  have i2:=fun h:Hp=>jM aK aI ([],[]) (b.map tx) h (j:=pb.length) (by simpa using hal)
  have j1:=fun h:Hp=>jN aK aI (a.map tx) h (k:=.i64) (i:=(pb.length:Int)) (by omega) (by simp;omega)
  have j2:=fun h:Hp=>jM aK aI ([],[]) (a.map tx) h (j:=pb.length) (by simpa using hal2)
  simp only [hx,hy,Int.toNat_natCast,aK,Zx,Y8] at i1 i2 j1 j2;have g1:(pb.length:Int) < (b.length:Int):=by omega
  refine ai ?_;by_cases hz:y.1=0
  ·have hz2:(!(tx y).1 == [48])=false:=by simp [lS.2 hz,tx]
   have ih:=K4 hK hN hab ha hb k k0 e0 x0 hx0 qb (pb++[y]) qa (pa++[x]) c (by simpa using h1) (by simpa using h2) (by simp [h3]) (by simpa using h4) (by simpa [gL,hz] using hk);simp only [raH] at ih;simp (disch:=first|omega|simp<;>omega|fail)[j4,szV,g1,raH];refine bm ?_;simp (disch:=first|omega|simp<;>omega|fail)[i1,i2,hz2];refine bm ?_;refine Eq.mpr (Ip _ _) ?_
   simp (disch:=first|omega|simp<;>omega|fail)[clean,dT,iF,k8,kZ,rX,Ek,dd,tJ,tI,nbq,hx0];simpa [szV] using ih
  ·have hz2:(!(tx y).1 == [48])=true:=by
    have:(tx y).1≠[48]:=fun e=>hz (lS.1 e)
    simp [this]
   have dv:=Ma x1 y1 hz (x2.mono (by omega)) (y2.mono (by omega));have dv':CP Y F.iI [.agg [S (tx x).1,S (tx x).2],.agg [S (tx y).1,S (tx y).2]] (.tup [.agg [S (tx (wA x y)).1,S (tx (wA x y)).2],I 0]):=dv
   have ih:=K4 hK hN hab ha hb k k0 e0 x0 hx0 qb (pb++[y]) qa (pa++[x]) (wA x y) (by simpa using h1) (by simpa using h2) (by simp [h3]) (by simpa using h4) (by simpa [gL,hz] using hk);simp only [raH] at ih;simp (disch:=first|omega|simp<;>omega|fail)[j4,szV,g1,raH];refine bm ?_;simp (disch:=first|omega|simp<;>omega|fail)[i1,i2,hz2];refine bm ?_
   refine Eq.mpr (Io _ _) ?_;simp (disch:=first|omega|simp<;>omega|fail)[j1,j2];refine cd dv' ?_ (by simp [ae,aB]);simp (disch:=first|omega|simp<;>omega|fail)[clean,dT,iF,k8,kZ,rX,Ek,dd,tJ,tI,nbq,hx0];simpa [szV] using ih
theorem wV {K L:Nat}:∀ {a b:List Q} {k:Q},okK K a->okK K b->okQ k->qL L k->K+K<=L->okQ (gL k a b)∧qL L (gL k a b)
 | [],b,k,_,_,h1,h2,_=>⟨h1,h2⟩
 | x :: a,[],k,_,_,h1,h2,_=>⟨h1,h2⟩
 | x :: a,y :: b,k,ha,hb,h1,h2,hL=>by
  simp only [gL];have ha':okK K a:=fun z hz=>ha z (by simp [hz])
  have hb':okK K b:=fun z hz=>hb z (by simp [hz])
  obtain ⟨x1,x2⟩:=ha x (by simp);obtain ⟨y1,y2⟩:=hb y (by simp);split
  ·exact wV ha' hb' h1 h2 hL
  ·rename_i hz;exact wV ha' hb' (NK x1 hz) ((P8 x2 y2).mono hL) hL
theorem Pr {a b:List Q} {K L:Nat} (hK:K<=40000) (hL:L<=90000) (hN:b.length < 1000000) (hab:a.length=b.length) (ha:okK K a) (hb:okK K b) {c:Q} (hc:okQ c) (lc:qL L c) (k:KL):∀ (qb pb qa pa:List Q),pb++qb=b->pa++qa=a->pa.length=pb.length->qa.length=qb.length ->
  (jk c qa qb=true->k (.exit 2) [] (raH (.vars [S [],S []]) 1 (tx c)))->(jk c qa qb=false->∀ w,k .ret [B false] [(1,.vars [S (tx c).1,S (tx c).2]),(1,.vars [S (tx c).1,S (tx c).2]),(0,.none),w]) ->
  lp (iW (CX Y) (szV a) (.ptr 0 1 0 2) (.ptr 1 1 0 2) (szV b) (I b.length)) [3] (raH (.vars [S [],S []]) 1 (tx c)) [I pb.length] (raH (.vars [S [],S []]) 1 (tx c)) k
 | [],pb,qa,pa,h1,h2,h3,h4,hk,hr=>by
  simp at h1;subst h1;have:qa=[]:=Zl h4;subst this;refine ai ?_;simp (disch:=first|omega|simp<;>omega|fail)[iW];exact hk rfl
 | y :: qb,pb,[],pa,h1,h2,h3,h4,hk,hr=>by simp at h4
 | y :: qb,pb,x :: qa,pa,h1,h2,h3,h4,hk,hr=>by
  have hal:pb.length < b.length:=by subst h1;simp
  have hal2:pb.length < a.length:=by omega
  obtain ⟨y1,y2⟩:=hb y (by subst h1;simp);have hy:nth ([],[]) (b.map tx) pb.length=tx y:=by subst h1;exact jz ..
  have hx:nth ([],[]) (a.map tx) pb.length=tx x:=by subst h2;rw [<- h3];exact jz ..
  have i1:=fun h:Hp=>jN aK aI (b.map tx) h (k:=.i64) (i:=(pb.length:Int)) (by omega) (by simp;omega)
  have i2:=fun h:Hp=>jM aK aI ([],[]) (b.map tx) h (j:=pb.length) (by simpa using hal)
  have j1:=fun h:Hp=>jN aK aI (a.map tx) h (k:=.i64) (i:=(pb.length:Int)) (by omega) (by simp;omega)
  have j2:=fun h:Hp=>jM aK aI ([],[]) (a.map tx) h (j:=pb.length) (by simpa using hal2)
  simp only [hx,hy,Int.toNat_natCast,aK,Zx,Y8] at i1 i2 j1 j2;have g1:(pb.length:Int) < (b.length:Int):=by omega
  have mu:=ER hc y1 (lc.mono (by omega)) (y2.mono (by omega));have mu':CP Y F.fx [.agg [S (tx c).1,S (tx c).2],.agg [S (tx y).1,S (tx y).2]] (.agg [S (tx (kM c y)).1,S (tx (kM c y)).2]):=mu;have ne:=Sk (kM c y) x;refine ai ?_;by_cases hq:kM c y=x
  ·have ih:=Pr hK hL hN hab ha hb hc lc k qb (pb++[y]) qa (pa++[x]) (by simpa using h1) (by simpa using h2) (by simp [h3]) (by simpa using h4) (fun g=>hk (by simp [jk,hq,g])) (fun g=>hr (by simp [jk,hq,g]));rw [decide_eq_true hq] at ne;simp only [raH] at ih;simp (disch:=first|omega|simp<;>omega|fail)[iW,szV,i1,i2,g1,raH];refine cd mu' ?_ (by simp [ae,aB])
   simp (disch:=first|omega|simp<;>omega|fail)[j1,j2,ne,clean,dT,iF,k8,kZ,rX,Ek,dd,tJ,tI,nbq];simpa [szV] using ih
  ·rw [decide_eq_false hq] at ne;simp (disch:=first|omega|simp<;>omega|fail)[iW,szV,i1,i2,g1,raH];refine cd mu' ?_ (by simp [ae,aB]);simp (disch:=first|omega|simp<;>omega|fail)[j1,j2,ne];exact hr (by simp [jk,hq]) _
theorem K2 {a b:List Q} {K:Nat} (hK:K<=40000) (hN:b.length < 1000000) (hab:a.length=b.length) (ha:okK K a) (hb:okK K b):CP Y F.km [szV a,szV b] (.tup [.agg (qT (gL (0,1) a b)),B (jk (gL (0,1) a b) a b)]):=by
 refine BB ?_;have n0:=fh (z:=0) (by omega) (by omega);have n0':CP Y F.bE [I 0] (.agg [S (tx (0,1)).1,S (tx (0,1)).2]):=n0;have z0:okQ ((0,1):Q):=⟨by decide,by decide⟩;have zl:qL 90000 ((0,1):Q):=⟨Z4 (a6 (d:=1) (by decide) (by decide)) (by decide),Z4 (a6 (d:=1) (by decide) (by decide)) (by decide)⟩
 obtain ⟨c1,c2⟩:=wV (k:=(0,1)) ha hb z0 zl (by omega);have lb:=rG b;simp (disch:=first|omega|simp<;>omega|fail)[km];refine cd n0' ?_;simp (disch:=first|omega|simp<;>omega|fail)[lb]
 have l0:=K4 hK hN hab ha hb (exK [((.exit 0),fun l6 h=>
  bnd (am (szV b)) fun v7=>
  lp (iW (CX Y) (szV a) (.ptr 0 1 0 2) (.ptr 1 1 0 2) (szV b) v7) [3] h [(.d (.int .i64 0))] h (exK [((.exit 2),fun l8 h=>
   bnd (ldA h 2 (.ptr 1 1 0 2)) fun v9=>
   stD h 2 (.ptr 0 1 0 2) v9 fun _ h=>
   bnd (ldA h 2 (.ptr 0 1 0 2)) fun v11=>
   out (.tup [.agg (qT (gL (0,1) a b)),B (jk (gL (0,1) a b) a b)]) (.tup [v11,(.d (.bool true))]) h),
   (.ret,fun l8 h=>
   bnd (ldA h 2 (.ptr 0 1 0 2)) fun v12=>
   out (.tup [.agg (qT (gL (0,1) a b)),B (jk (gL (0,1) a b) a b)]) (.tup [v12,(ge l8 0)]) h)]))]) (tx (0,1)) 1 (.vars [S [],S []]) rfl b [] a [] (0,1) rfl rfl rfl hab (by
   generalize gL (0,1) a b=c at *;simp (disch:=first|omega|simp<;>omega|fail)[lb];refine lo (Pr hK (Z7 _) hN hab ha hb c1 c2 _ b [] a [] rfl rfl rfl hab (fun g=>?_) (fun g w=>?_))
   ·simp (disch:=first|omega|simp<;>omega|fail)[raH];rw [g];exact aj (Pp _ c) rfl
   ·simp (disch:=first|omega|simp<;>omega|fail)[];rw [g];exact aj (Pp _ c) rfl)
 exact l0
theorem Ck {n:Nat}:∀ (ts:List (Int × Int)) (lo hi:Int) (B:Nat),Ob n ts->(∀ t ∈ ts,ndg t.2.natAbs<=100000)->101502<=B->ndg lo.natAbs<=B->ndg hi.natAbs<=B ->
  ndg (aP n ts (lo,hi)).1.natAbs<=B+ts.length∧ndg (aP n ts (lo,hi)).2.natAbs<=B+ts.length
 | [],lo,hi,B,hl,hk,hB,h1,h2=>by simpa [aP] using ⟨h1,h2⟩
 | t :: ts,lo,hi,B,hl,hk,hB,h1,h2=>by
  obtain ⟨l1,l2,l3,l4⟩:=hl t (by simp);have hk1:=hk t (by simp);generalize hv:lg t.1 n=v at *;have hv1:ndg (v+1)<=1501:=nL l4 (Z4 (a6 (n:=1) (d:=1) (by decide) (by decide)) (by decide))
  have hx:ndg ((v:Int) * t.2).natAbs<=101501:=by
   have:=cF (z:=(v:Int)) (w:=t.2);rw [Int.natAbs_natCast] at this;omega
  have hy0:ndg (((v+1:Nat):Int) * t.2).natAbs<=101501:=by
   have:=cF (z:=((v+1:Nat):Int)) (w:=t.2);rw [Int.natAbs_natCast] at this;omega
  obtain ⟨y,hy⟩:∃ y:Int,y=(if t.1=2 then (v:Int) else v+1):=⟨_,rfl⟩
  have hyb:ndg (y * t.2).natAbs<=101501:=by
   subst hy;split
   ·exact hx
   ·exact hy0
  have e:∀ q:Int × Int,ndg q.1.natAbs<=B+1->ndg q.2.natAbs<=B+1->ndg (aP n ts q).1.natAbs<=B+(t :: ts).length∧ndg (aP n ts q).2.natAbs<=B+(t :: ts).length:=fun q q1 q2=>by
   obtain ⟨qa,qb⟩:=q;have:=Ck (n:=n) ts qa qb (B+1) (fun t ht=>hl t (by simp [ht])) (fun t ht=>hk t (by simp [ht])) (by omega) q1 q2;simp only [List.length_cons];exact ⟨by have:=this.1;omega,by have:=this.2;omega⟩
  simp only [aP,hv,<- hy];split
  ·exact e _ (jA h1 (Z4 hyb (by omega))) (jA h2 (Z4 hx (by omega)))
  ·exact e _ (jA h1 (Z4 hx (by omega))) (jA h2 (Z4 hyb (by omega)))
def Cf (tx ty:List (Int × Int)) (d g:Int):Nat->Nat->Option Int
 | 0,_=>none
 | r+1,n=>match yf (aP n tx (0,0)) (aP n ty (0,0)) d g with
  | some q=>some q
  | none=>Cf tx ty d g r (n * 2)
theorem P7 (x y:Int × Int) (d g:Int):yf x y d g=if (if y.2<=0 then sO (-x.2) (-x.1) (-y.2) (-y.1) d g else sO x.1 x.2 y.1 y.2 d g).2=true then some (if y.2<=0 then sO (-x.2) (-x.1) (-y.2) (-y.1) d g else sO x.1 x.2 y.1 y.2 d g).1 else none:=by
 rw [Ga,K6]
theorem LX (a b:Int):biS .eql (S (itoa a)) (S (itoa b))=some (B (decide (a=b))):=by
 have:(itoa a == itoa b)=decide (a=b):=by
  rw [Yw];simp only [beq_iff_eq,decide_eq_true_eq];exact ⟨fun h=>ug h,fun h=>by rw [h]⟩
 simp only [biS,xI,this]
theorem ET {X1 X2 Y1 Y2:Int} {tx ty:List (Int × Int)} {d g:Nat} {M:Nat} (hM:M<=110000) (x1:ndg X1.natAbs<=M) (x2:ndg X2.natAbs<=M) (y1:ndg Y1.natAbs<=M) (y2:ndg Y2.natAbs<=M) (y0:Y1<=Y2) (d0:0 < d) (g0:0 < g) (hd:ndg d<=100000) (hg:ndg g<=100000)
  (h:Hp) (hh:h=[(1,.vars [S [],S []]),(1,.vars ((tmD tx d).map .d)),(1,.vars ((tmD ty g).map .d))]∨True) (e1:ld1 h (.ptr 2 1 2 3)=some (S (aa g))) (e2:ld1 h (.ptr 1 1 2 3)=some (S (aa d))) (q2:Hp->Prop) (qr:V->Hp->Prop)
  (h1:(sO X1 X2 Y1 Y2 d g).2=false->q2 h) (h2:(sO X1 X2 Y1 Y2 d g).2=true->qr (S (itoa (sO X1 X2 Y1 Y2 d g).1)) h) :
  cal (CX Y).p h (.fn F.aZ [] []) [S (itoa Y1)] fun v16 h=>
   bnd (biI .leq v16 (.d (.int .i64 0))) fun v17=>
   cnd v17 (q2 h) (
    cal (CX Y).p h (.fn F.aZ [] []) [S (itoa X1)] fun v18 h=>
    bnd (biI .lss v18 (.d (.int .i64 0))) fun v19=>
    jn (fun l20 h=>
     cal (CX Y).p h (.fn F.aZ [] []) [S (itoa X2)] fun v22 h=>
     bnd (biI .lss v22 (.d (.int .i64 0))) fun v23=>
     jn (fun l24 h=>
      bnd (faV 2 (.ptr 2 1 0 3)) fun v26=>
      bnd (ld1 h v26) fun v27=>
      cal (CX Y).p h (.fn F.ay [] []) [S (itoa X1),v27] fun v28 h=>
      bnd (faV 2 (.ptr 1 1 0 3)) fun v29=>
      bnd (ld1 h v29) fun v30=>
      cal (CX Y).p h (.fn F.ay [] []) [(ge l20 0),v30] fun v31 h=>
      cal (CX Y).p h (.fn F.aG [] []) [v28,v31] fun v32 h=>
      ext v32 0 fun v33=>
      ext v32 1 fun v34=>
      ext v32 2 fun v35=>
      bnd (faV 2 (.ptr 2 1 0 3)) fun v36=>
      bnd (ld1 h v36) fun v37=>
      cal (CX Y).p h (.fn F.ay [] []) [S (itoa X2),v37] fun v38 h=>
      bnd (faV 2 (.ptr 1 1 0 3)) fun v39=>
      bnd (ld1 h v39) fun v40=>
      cal (CX Y).p h (.fn F.ay [] []) [(ge l24 0),v40] fun v41 h=>
      cal (CX Y).p h (.fn F.aG [] []) [v38,v41] fun v42 h=>
      ext v42 0 fun v43=>
      ext v42 1 fun v44=>
      ext v42 2 fun v45=>
      bnd (biS .eql v33 v43) fun v46=>
      cnd v46 (qr v33 h) (q2 h)) fun q25=>
      cnd v23 (
       q25 [S (itoa Y2)] h) (
       q25 [S (itoa Y1)] h)) fun q21=>
     cnd v19 (
      q21 [S (itoa Y1)] h) (
      q21 [S (itoa Y2)] h)):=by
 have s1:=iP Y1;have s2:=iP X1;have s3:=iP X2;have p1:=sH Y1;have n2:sgn X1 < 0↔X1 < 0:=by unfold sgn;split <;> (try split) <;> omega
 have n3:sgn X2 < 0↔X2 < 0:=by unfold sgn;split <;> (try split) <;> omega
 unfold sO at h1 h2;have sn:∀ s:List UInt8,ae h [S s]=some ([S s],h):=fun s=>by simp [ae,aB]
 have sn2:∀ s t:List UInt8,ae h [S s,S t]=some ([S s,S t],h):=fun s t=>by simp [ae,aB]
 by_cases c:Y1<=0
 ·rw [if_pos c] at h1;have c':sgn Y1<=0:=p1.2 c;simp (disch:=first|omega|simp<;>omega|fail)[];refine cd s1 ?_ (sn _);simp (disch:=first|omega|simp<;>omega|fail)[c'];exact h1 rfl
 ·rw [if_neg c] at h1 h2;have c':¬ sgn Y1<=0:=fun x=>c (p1.1 x)
  obtain ⟨lo,hlo⟩:∃ z,z=(if X1 < 0 then Y1 else Y2):=⟨_,rfl⟩;obtain ⟨hi,hhi⟩:∃ z,z=(if X2 < 0 then Y2 else Y1):=⟨_,rfl⟩;rw [<- hlo,<- hhi] at h1 h2;have l1:0 < lo∧ndg lo.natAbs<=M:=by subst hlo;split <;> exact ⟨by omega,by assumption⟩
  have l2:0 < hi∧ndg hi.natAbs<=M:=by subst hhi;split <;> exact ⟨by omega,by assumption⟩
  have mg:∀ z:Int,ndg z.natAbs<=M->∀ w:Nat,ndg w<=100000->CP Y F.ay [S (itoa z),S (aa w)] (S (itoa (z * w)))∧ndg (z * w).natAbs<=300000:=fun z hz w hw=>by
   refine ⟨qW (by omega) (by omega),?_⟩;have:=cF (z:=z) (w:=(w:Int));rw [Int.natAbs_natCast] at this;omega
  obtain ⟨m1,b1⟩:=mg X1 x1 g hg;obtain ⟨m2,b2⟩:=mg lo l1.2 d hd;obtain ⟨m3,b3⟩:=mg X2 x2 g hg;obtain ⟨m4,b4⟩:=mg hi l2.2 d hd;have z1:0 < lo * (d:Int):=Xb l1.1 (by omega);have z2:0 < hi * (d:Int):=Xb l2.1 (by omega);have w1:=C7 (z:=X1 * g) (w:=lo * d) z1 (by omega) (by omega);have w2:=C7 (z:=X2 * g) (w:=hi * d) z2 (by omega) (by omega)
  have eq:=LX (X1 * g / (lo * d)) (X2 * g / (hi * d));generalize X1 * (g:Int) / (lo * d)=r1 at *;generalize X2 * (g:Int) / (hi * d)=r2 at *;generalize X1 * (g:Int) % (lo * d)=r3 at *;generalize X2 * (g:Int) % (hi * d)=r4 at *;generalize X1 * (g:Int)=u1 at *;generalize X2 * (g:Int)=u2 at *;generalize lo * (d:Int)=v1 at *;generalize hi * (d:Int)=v2 at *
  simp (disch:=first|omega|simp<;>omega|fail)[];refine cd s1 ?_ (sn _);simp (disch:=first|omega|simp<;>omega|fail)[c'];refine cd s2 ?_ (sn _);simp (disch:=first|omega|simp<;>omega|fail)[];refine eC (l:=[S (itoa lo)]) (h:=h) (fun q=>?_) ?_
  ·by_cases c1:X1 < 0
   ·rw [decide_eq_true (n2.2 c1),hlo,if_pos c1];rfl
   ·rw [decide_eq_false (fun x=>c1 (n2.1 x)),hlo,if_neg c1];rfl
  ·simp (disch:=first|omega|simp<;>omega|fail)[];refine cd s3 ?_ (sn _);simp (disch:=first|omega|simp<;>omega|fail)[];refine eC (l:=[S (itoa hi)]) (h:=h) (fun q=>?_) ?_
   ·by_cases c1:X2 < 0
    ·rw [decide_eq_true (n3.2 c1),hhi,if_pos c1];rfl
    ·rw [decide_eq_false (fun x=>c1 (n3.1 x)),hhi,if_neg c1];rfl
   ·rw [Pw] at e1 e2;simp (disch:=first|omega|simp<;>omega|fail)[e1];refine cd m1 ?_ (sn2 _ _);simp (disch:=first|omega|simp<;>omega|fail)[e2];refine cd m2 ?_ (sn2 _ _);simp (disch:=first|omega|simp<;>omega|fail)[];refine cd w1 ?_ (sn2 _ _);simp (disch:=first|omega|simp<;>omega|fail)[e1];refine cd m3 ?_ (sn2 _ _);simp (disch:=first|omega|simp<;>omega|fail)[e2]
    refine cd m4 ?_ (sn2 _ _);simp (disch:=first|omega|simp<;>omega|fail)[];refine cd w2 ?_ (sn2 _ _);by_cases he:r1=r2
    ·rw [decide_eq_true he] at eq h2;simp (disch:=first|omega|simp<;>omega|fail)[eq];exact h2 rfl
    ·rw [decide_eq_false he] at eq h1;simp (disch:=first|omega|simp<;>omega|fail)[eq];exact h1 rfl
theorem LV {k:List V->Hp->Prop} {T:(List V->Hp->Prop)->Prop} (h:T k):jn k T:=h
def flH (k:Tx) (tx ty:List (Int × Int)) (d g:Nat):Hp:=[(1,.vars [S k.1,S k.2]),(1,.vars ((tmD tx d).map .d)),(1,.vars ((tmD ty g).map .d))]
theorem EU {k0:Tx} {tx ty:List (Int × Int)} {d g:Nat} (hx:okT tx) (hy:okT ty) (lx:vV tx) (ly:vV ty) (d0:0 < d) (g0:0 < g) (hd:ndg d<=100000) (hg:ndg g<=100000) (hord:∀ i,i < 6->(aP (64 * 2 ^ i) ty (0,0)).1<=(aP (64 * 2 ^ i) ty (0,0)).2) (k:KL) (h0:Hp) (hh:h0.length=3):∀ (r i:Nat) (s:Int),i+r=6->Cf tx ty d g r (64 * 2 ^ i)=some s->(∀ h,k .ret [S (itoa s)] h) ->
  lp (gV (CX Y) (.ptr 1 1 0 3) (.ptr 2 1 0 3)) [] h0 [I ((64 * 2 ^ i:Nat):Int)] (flH k0 tx ty d g) k
 | 0,i,s,hi,hs,hk=>by simp [Cf] at hs
 | r+1,i,s,hi,hs,hk=>by
  have hn:64 * 2 ^ i<=3900:=by
   have:2 ^ i<=2 ^ 5:=Z3 (by decide) (by omega);omega
  have ex:=Cj (n:=64 * 2 ^ i) (d:=d) hn (lx i (by omega)) (tS hx) (by have:=hx.1;omega);have ey:=Cj (n:=64 * 2 ^ i) (d:=g) hn (ly i (by omega)) (tS hy) (by have:=hy.1;omega);have z1:ndg (0:Int).natAbs<=101502:=Z4 (a6 (d:=1) (by decide) (by decide)) (by decide);have bx:=Ck (n:=64 * 2 ^ i) tx 0 0 101502 (lx i (by omega)) (tS hx) (Z7 _) z1 z1
  have by_:=Ck (n:=64 * 2 ^ i) ty 0 0 101502 (ly i (by omega)) (tS hy) (Z7 _) z1 z1;have hor:=hord i (by omega);have hd2:64 * 2 ^ i * 2=64 * 2 ^ (i+1):=by rw [Nat.pow_succ,<- Nat.mul_assoc]
  have tl:=hx.1;have tl2:=hy.1;have ex':CP Y F.bV [.agg [.d (.sl tx.length (tx.map tmP)),.d (.sl tx.length (tx.map tmK)),S (aa d)],I ((64 * 2 ^ i:Nat):Int)] (.tup [S (itoa (aP (64 * 2 ^ i) tx (0,0)).1),S (itoa (aP (64 * 2 ^ i) tx (0,0)).2)]):=ex
  have ey':CP Y F.bV [.agg [.d (.sl ty.length (ty.map tmP)),.d (.sl ty.length (ty.map tmK)),S (aa g)],I ((64 * 2 ^ i:Nat):Int)] (.tup [S (itoa (aP (64 * 2 ^ i) ty (0,0)).1),S (itoa (aP (64 * 2 ^ i) ty (0,0)).2)]):=ey;simp only [Cf,hd2,P7] at hs;generalize aP (64 * 2 ^ i) tx (0,0)=x at *;generalize aP (64 * 2 ^ i) ty (0,0)=y at *
  have ih:=EU (k0:=k0) hx hy lx ly d0 g0 hd hg hord k h0 hh r (i+1) s (by omega);have hm:((64 * 2 ^ i:Nat):Int) * 2=((64 * 2 ^ (i+1):Nat):Int):=by rw [<- hd2];omega
  have hm2:((64 * 2 ^ (i+1):Nat):Int)<=8000:=by omega
  generalize 64 * 2 ^ (i+1)=m2 at *;generalize 64 * 2 ^ i=m at *;have s1:=iP y.2;have p1:=sH y.2;obtain ⟨w,hw⟩:∃ w,w=(if y.2<=0 then sO (-x.2) (-x.1) (-y.2) (-y.1) d g else sO x.1 x.2 y.1 y.2 d g):=⟨_,rfl⟩;rw [<- hw] at hs
  have nx:w.2=false->lp (gV (CX Y) (.ptr 1 1 0 3) (.ptr 2 1 0 3)) [] h0 [I (m2:Int)] (flH k0 tx ty d g) k:=fun hf=>by
   rw [hf] at hs;exact ih (by simpa using hs) hk
  have rt:w.2=true->itoa w.1=itoa s:=fun ht=>by
   rw [ht] at hs;simp at hs;rw [hs]
  refine ai ?_
  have q2p:w.2=false->bnd (biI .mul (I (m:Int)) (.d (.int .i64 2))) fun v3=>
    clean [] [v3] (flH k0 tx ty d g)=true∧lp (gV (CX Y) (.ptr 1 1 0 3) (.ptr 2 1 0 3)) [] h0 [v3] (ax [] 0 h0 (flH k0 tx ty d g)) k:=fun hf=>by
   have:=nx hf;have e:biI .mul (I (m:Int)) (.d (.int .i64 2))=some (I (m2:Int)):=by rw [kf,hm,wrap_i64 ⟨by omega,by omega⟩]
   rw [e,nC,dK 0 h0 _ (by rw [hh];rfl)];exact ⟨by simp [flH,tmD,clean,k8,kZ,dd,rX,dT,iF],this⟩
  have rtp:∀ h,w.2=true->k .ret [S (itoa w.1)] h:=fun h ht=>by rw [rt ht];exact hk h
  simp (disch:=first|omega|simp<;>omega|fail)[gV,flH,tmD];refine bm ?_;simp (disch:=first|omega|simp<;>omega|fail)[];refine cd ex' ?_ (by simp [ae,aB]);simp (disch:=first|omega|simp<;>omega|fail)[];refine cd ey' ?_ (by simp [ae,aB]);simp (disch:=first|omega|simp<;>omega|fail)[];refine cd s1 ?_ (by simp [ae,aB]);by_cases c:y.2<=0
  ·have c':sgn y.2<=0:=p1.2 c;rw [if_pos c] at hw;have n1:=rE (z:=x.2) (by omega);have n2:=rE (z:=x.1) (by omega);have n3:=rE (z:=y.2) (by omega);have n4:=rE (z:=y.1) (by omega)
   have fr:=ET (X1:=-x.2) (X2:=-x.1) (Y1:=-y.2) (Y2:=-y.1) (tx:=tx) (ty:=ty) (d:=d) (g:=g) (M:=110000) (Z7 _) (by rw [X9];omega) (by rw [X9];omega) (by rw [X9];omega) (by rw [X9];omega) (by omega) d0 g0 hd hg (flH k0 tx ty d g) (.inr trivial) rfl rfl (fun h=>bnd (biI .mul (I (m:Int)) (.d (.int .i64 2))) fun v3=>clean [] [v3] h=true∧lp (gV (CX Y) (.ptr 1 1 0 3) (.ptr 2 1 0 3)) [] h0 [v3] (ax [] 0 h0 h) k) (fun v h=>k .ret [v] h) (fun hf=>q2p (by rw [hw];exact hf)) (fun ht=>by
    rw [<- hw] at ht ⊢;exact rtp _ ht)
   have e13:biI .leq (I (sgn y.2)) (.d (.int .i64 0))=some (B true):=by simp [c']
   rw [e13,nC];refine LV ?_;refine Eq.mpr (Io _ _) ?_;exact cd (u:=.mk) n1 (cd (u:=.mk) n2 (cd (u:=.mk) n3 (cd (u:=.mk) n4 fr (by simp [ae,aB])) (by simp [ae,aB])) (by simp [ae,aB])) (by simp [ae,aB])
  ·have c':¬ sgn y.2<=0:=fun z=>c (p1.1 z)
   rw [if_neg c] at hw
   have fr:=ET (X1:=x.1) (X2:=x.2) (Y1:=y.1) (Y2:=y.2) (tx:=tx) (ty:=ty) (d:=d) (g:=g) (M:=110000) (Z7 _) (by omega) (by omega) (by omega) (by omega) hor d0 g0 hd hg (flH k0 tx ty d g) (.inr trivial) rfl rfl (fun h=>bnd (biI .mul (I (m:Int)) (.d (.int .i64 2))) fun v3=>clean [] [v3] h=true∧lp (gV (CX Y) (.ptr 1 1 0 3) (.ptr 2 1 0 3)) [] h0 [v3] (ax [] 0 h0 h) k) (fun v h=>k .ret [v] h) (fun hf=>q2p (by rw [hw];exact hf)) (fun ht=>by
    rw [<- hw] at ht ⊢;exact rtp _ ht)
   have e13:biI .leq (I (sgn y.2)) (.d (.int .i64 0))=some (B false):=by simp;omega
   rw [e13,nC];refine LV ?_;refine Eq.mpr (Ip _ _) ?_;exact fr
def yM (p:List Int) (a b:List Q) (q:Int):Prop:=
 (jk (gL (0,1) a b) a b=true∧q=(gL (0,1) a b).1 / ((gL (0,1) a b).2:Int)) ∨
 (jk (gL (0,1) a b) a b=false∧Gh (tq p a)∧Gh (tq p b)∧fF 1 a < 9223372036854775808∧fF 1 b < 9223372036854775808 ∧
  ((BP (tq p a) (tq p b) (fF 1 a) (fF 1 b)=some q∧-9223372036854775808 < q∧q < 9223372036854775808) ∨
   (BP (tq p a) (tq p b) (fF 1 a) (fF 1 b)=none∧vV (tq p a)∧vV (tq p b)∧(∀ i,i < 6->(aP (64 * 2 ^ i) (tq p b) (0,0)).1<=(aP (64 * 2 ^ i) (tq p b) (0,0)).2)∧Cf (tq p a) (tq p b) (fF 1 a) (fF 1 b) 6 64=some q)))
theorem Gg {ts:List (Int × Int)} (h:Gh ts):okT ts:=⟨by have:=h.1;omega,fun t ht=>⟨(h.2 t ht).1,by have:=(h.2 t ht).2.1;omega,(h.2 t ht).2.2⟩⟩
theorem JK {p:List Int} {a b:List Q} {K:Nat} {q:Int} (hK:K<=1000) (hN:p.length<=20) (ha:a.length=p.length) (hb:b.length=p.length) (oa:okK K a) (ob:okK K b) (hq:yM p a b q):CP Y F.ko [lst di p,szV a,szV b] (S (itoa q)):=by
 refine BD ?_;have hKK:K * a.length<=1000 * 20:=Zp hK (by omega);have hKK2:K * b.length<=1000 * 20:=Zp hK (by omega);have ra:=K2 (a:=a) (b:=b) (K:=K) (by omega) (by omega) (by omega) oa ob;have z0:okQ ((0,1):Q):=⟨by decide,by decide⟩
 have zl:qL 90000 ((0,1):Q):=⟨Z4 (a6 (d:=1) (by decide) (by decide)) (by decide),Z4 (a6 (d:=1) (by decide) (by decide)) (by decide)⟩;obtain ⟨c1,c2⟩:=wV (k:=(0,1)) (L:=90000) oa ob z0 zl (by omega);have ff:=GH c1 (c2.mono (by omega));have ta:=mW (p:=p) (s:=a) (K:=K) (by omega) ha.symm oa (by omega) (by omega)
 have tb:=mW (p:=p) (s:=b) (K:=K) (by omega) hb.symm ob (by omega) (by omega);have pa:=lZ (s:=a) (d:=1) (by decide) (fun x hx=>(oa x hx).1.1);have pb:=lZ (s:=b) (d:=1) (by decide) (fun x hx=>(ob x hx).1.1);have ra':CP Y F.km [szV a,szV b] (.tup [.agg [S (tx (gL (0,1) a b)).1,S (tx (gL (0,1) a b)).2],B (jk (gL (0,1) a b) a b)]):=ra
 have ff':CP Y F.gv [.agg [S (tx (gL (0,1) a b)).1,S (tx (gL (0,1) a b)).2]] (S (itoa ((gL (0,1) a b).1 / (gL (0,1) a b).2))):=ff;have sn:∀ h:Hp,ae h [szV a,szV b]=some ([szV a,szV b],h):=fun h=>by simp [ae,szV,dp]
 simp (disch:=first|omega|simp<;>omega|fail)[ko];refine cd ra' ?_ (sn _);rcases hq with ⟨g,hq⟩ | ⟨g,qa,qb,da,db,hq⟩
 ·rw [g];subst hq;generalize gL (0,1) a b=c at *;simp (disch:=first|omega|simp<;>omega|fail)[];refine cd ff' ?_ (by simp [ae,aB]);exact cU rfl
 ·rw [g];generalize gL (0,1) a b=c at *;obtain ⟨q',b',qo,q1,q2⟩:=DY qa qb da db pa pb;simp (disch:=first|omega|simp<;>omega|fail)[];refine cd ta ?_ (by simp [ae,szV,dp]);simp (disch:=first|omega|simp<;>omega|fail)[];refine cd tb ?_ (by simp [ae,szV,dp])
  show alV _ _ _ _
  have qo':CP Y F.c8 [.agg [.d (.sl (tq p a).length ((tq p a).map tmP)),.d (.sl (tq p a).length ((tq p a).map tmK)),S (aa (fF 1 a))],.agg [.d (.sl (tq p b).length ((tq p b).map tmP)),.d (.sl (tq p b).length ((tq p b).map tmK)),S (aa (fF 1 b))]] (.tup [I q',B b']):=qo;have e1:cM (fF 1 a) p a=tq p a:=rfl;have e2:cM (fF 1 b) p b=tq p b:=rfl;rw [e1,e2]
  have nd:=fun n (h:n < 9223372036854775808)=>Z4 (a6 (n:=n) (d:=19) (by omega) (by decide)) (by decide:19<=100000)
  have fl:=fun hl1 hl2 ho (hs:Cf (tq p a) (tq p b) (fF 1 a) (fF 1 b) 6 64=some q)=>EU (k0:=tx c) (Gg qa) (Gg qb) hl1 hl2 pa pb (nd _ da) (nd _ db) ho (exK [(.ret,fun l20 h=>out (S (itoa q)) (ge l20 0) h)]) (flH (tx c) (tq p a) (tq p b) (fF 1 a) (fF 1 b)) rfl 6 0 q rfl hs (fun h=>by
   simp (disch:=first|omega|simp<;>omega|fail)[];exact cU rfl)
  generalize tq p a=ta' at *;generalize tq p b=tb' at *;simp (disch:=first|omega|simp<;>omega|fail)[tmV];refine cd qo' ?_ (by simp [ae,aB]);cases b' with
  | true=>
   rcases hq with ⟨h1,h2,h3⟩ | ⟨h1,_⟩
   ·rw [q1 rfl] at h1;simp only [Z9] at h1;subst h1;simp (disch:=first|omega|simp<;>omega|fail)[];refine cd (lE h2 h3) ?_;exact cU rfl
   ·rw [q1 rfl] at h1;cases h1
  | false=>
   rcases hq with ⟨h1,_⟩ | ⟨h1,hl1,hl2,ho,hs⟩
   ·rw [q2 rfl] at h1;cases h1
   ·have:=fl hl1 hl2 ho hs;simp only [flH,tmD,Zx,Y8] at this;simp (disch:=first|omega|simp<;>omega|fail)[];exact this
theorem Fq {p:List Int} {a b:List Q} (hp:pcB p=0) (hN:p.length<=20) (ha:a.length=p.length) (hb:b.length=p.length) (oa:okS a) (ob:okS b) (hne:tq p b≠[]):CP Y F.ef [lst di p,szV a,szV b] (I 0):=by
 refine qv ?_
 have hab:∀ s ∈ [a,b],s.length=p.length∧okS s:=fun s hs=>by
  simp at hs;rcases hs with rfl | rfl
  ·exact ⟨ha,oa⟩
  ·exact ⟨hb,ob⟩
 have ca:=qQ (p:=p) (l:=[a,b]) (by omega) (by simp) (fun s hs=>⟨(hab s hs).2,by have:=(hab s hs).1;omega⟩);rw [if_pos hp,xn (n:=p.length) (l:=[a,b]) fun s hs=>(hab s hs).1] at ca;have tb:=mW (p:=p) (s:=b) (K:=30) (by omega) hb.symm ob (by omega) (by omega);have l1:∀ H,dt 2 [D.pl (Value.slice none 0 0)] [(0,szV a),(1,szV b)] H=some ([szD a,szD b],H):=fun H=>Jw ..
 have e2:cM (fF 1 b) p b=tq p b:=rfl;rw [e2] at tb;generalize tq p b=t at *;have ll:am (.d (.sl t.length (t.map tmP)))=some (I t.length):=rfl;simp (disch:=first|omega|simp<;>omega|fail)[ef,l1];refine cd (v:=I 0) ca ?_ (by simp [ae,aB,norm]);simp (disch:=first|omega|simp<;>omega|fail)[];refine cd tb ?_ (by simp [ae,szV,dp])
 simp (disch:=first|omega|simp<;>omega|fail)[tmV,fiV,ll,hne]
def wz (p:List Int) (a b:List Q):List Q:=j3 p.length [a,b] [(2,1),(1,1)]
def sJ (p:List Int) (b:List Q):List Q:=j3 p.length [b] [(2,1)]
theorem Bq:okK 1 [(2,1),(1,1)]:=fun x hx=>by
 simp at hx;rcases hx with rfl | rfl
 ·exact ⟨⟨by decide,by decide⟩,a6 (by decide) (by decide),a6 (by decide) (by decide)⟩
 ·exact ⟨⟨by decide,by decide⟩,a6 (by decide) (by decide),a6 (by decide) (by decide)⟩
theorem DO {p:List Int} {a b:List Q} {q:Int} (hp:pcB p=0) (hN:p.length<=20) (ha:a.length=p.length) (hb:b.length=p.length) (oa:okS a) (ob:okS b) (hne:tq p b≠[]) (hq:yM p (wz p a b) (sJ p b) q):CP Y F.kq [lst di p,szV a,szV b] (.tup [S (itoa q),I 0]):=by
 refine BH ?_;have cq:=Fq hp hN ha hb oa ob hne
 have hab:∀ s ∈ [a,b],s.length=p.length∧okK 30 s:=fun s hs=>by
  simp at hs;rcases hs with rfl | rfl
  ·exact ⟨ha,oa⟩
  ·exact ⟨hb,ob⟩
 have hbb:∀ s ∈ [b],s.length=p.length∧okK 30 s:=fun s hs=>by
  simp at hs;subst hs;exact ⟨hb,ob⟩
 have o2:okK 1 [((2,1):Q)]:=fun x hx=>Bq x (by simp at hx;subst hx;simp)
 have su:=xG (n:=p.length) (l:=[a,b]) (fs:=[(2,1),(1,1)]) (Ks:=30) (Kk:=1) (by omega) (by simp) rfl (by decide) (by simp) hab Bq;have sv:=xG (n:=p.length) (l:=[b]) (fs:=[(2,1)]) (Ks:=30) (Kk:=1) (by omega) (by simp) rfl (by decide) (by simp) hbb o2;have oA:okK 65 (wz p a b):=wT (Ks:=30) (Kk:=1) (Ko:=1) (tu _) (fun s hs=>(hab s hs).2) Bq
 have oB:okK 65 (sJ p b):=fun x hx=>by
  have:=wT (Ks:=30) (Kk:=1) (Ko:=1) (tu p.length) (fun s hs=>(hbb s hs).2) o2 x hx;exact ⟨this.1,this.2.mono (by simp)⟩
 have lA:(wz p a b).length=p.length:=by
  unfold wz j3;rw [mX (fun s hs=>by simpa using (hab s hs).1)];simp
 have lB:(sJ p b).length=p.length:=by
  unfold sJ j3;rw [mX (fun s hs=>by simpa using (hbb s hs).1)];simp
 have fl:=JK (p:=p) (K:=65) (by omega) hN lA lB oA oB hq;have l1:∀ H,dt 2 [D.pl (Value.slice none 0 0)] [(0,szV a),(1,szV b)] H=some ([szD a,szD b],H):=fun H=>Jw ..
 have l2:∀ H,dt 2 [D.str [],D.str []] [(0,.agg (qT (2,1))),(1,.agg (qT (1,1)))] H=some (aK (tx (2,1))++aK (tx (1,1)),H):=fun H=>LD (2,1) (1,1) H
 have l3:am (lst di p)=some (I p.length):=rfl;have l4:∀ H,dt 1 [D.pl (Value.slice none 0 0)] [(0,szV b)] H=some ([szD b],H):=fun H=>Jy ..
 have l5:∀ H,dt 1 [D.str [],D.str []] [(0,.agg (qT (2,1)))] H=some (aK (tx (2,1)),H):=fun H=>LE (2,1) H
 have sn:∀ (h:Hp) (x y:List Q),ae h [lst di p,szV x,szV y]=some ([lst di p,szV x,szV y],h):=fun h x y=>by simp [ae,szV,dp]
 simp (disch:=first|omega|simp<;>omega|fail)[kq];refine cd cq ?_ (sn _ _ _);simp (disch:=first|omega|simp<;>omega|fail)[l1];refine cd (fh (z:=2) (by omega) (by omega)) ?_;simp (disch:=first|omega|simp<;>omega|fail)[];refine cd (fh (z:=1) (by omega) (by omega)) ?_;simp (disch:=first|omega|simp<;>omega|fail)[l2]
 refine cd (v:=szV (wz p a b)) su ?_ (by simp [ae,aB,norm]);simp (disch:=first|omega|simp<;>omega|fail)[l4];refine cd (fh (z:=2) (by omega) (by omega)) ?_;simp (disch:=first|omega|simp<;>omega|fail)[l5];refine cd (v:=szV (sJ p b)) sv ?_ (by simp [ae,aB,norm]);simp (disch:=first|omega|simp<;>omega|fail)[];refine cd fl ?_ (sn _ _ _);exact aj rfl rfl
theorem S5 (a b:List UInt8):bld [(0,1),(1,1)] [.str [],.str []] [(0,S a),(1,S b)]=some (.agg [S a,S b]):=by simp [bld,kR,qR]
def dZ (p:List Int) (n:Nat):List Q:=j3 p.length [eV p.length] [(1,n)]
theorem yP (n:Nat):okS (eV n):=fun x hx=>by
 unfold eV at hx;simp only [Zt] at hx;rcases hx with rfl | hx
 ·exact vg 1 (by omega) (by omega)
 ·have:=Xw hx;subst this;exact vg 0 (by omega) (by omega)
theorem Pz {n:Nat} (h0:0 < n) (h1:n<=10000):okQ ((1,n):Q)∧qL 30 ((1,n):Q):=
 ⟨⟨h0,by simp⟩,Z4 (a6 (d:=1) (by simp) (by decide)) (by decide),Z4 (a6 (d:=5) (by show n < 10 ^ 5;omega) (by decide)) (by decide)⟩
theorem lU {n:Nat} {l:List (List Q)} {f:List Q} (h:∀ s ∈ l,s.length=n):(j3 n l f).length=n:=by
 unfold j3;rw [mX (fun s hs=>by simpa using h s hs)];simp
theorem E3 {p:List Int} {n:Nat} (hp:pcB p=0) (hN:p.length<=20) (hl:0 < p.length) (h0:0 < n) (h1:n<=10000) (hr:okS (dZ p n)):CP Y F.hH [lst di p,I n] (.tup [szV (dZ p n),I 0]):=by
 refine wH ?_;have eq:=AV hp (by omega) hl;have of_:=lE (z:=(n:Int)) (by omega) (by omega);rw [bW] at of_;have le:(eV p.length).length=p.length:=by simp [eV];omega
 have sc:=tG (p:=p) (s:=eV p.length) (k:=(1,n)) hp (by omega) le (yP _) (Pz h0 h1) hr;have e1:itoa 1=[49]:=dQ
 have sc':CP Y F.fc [lst di p,szV (eV p.length),.agg [S [49],S (aa n)]] (.tup [szV (dZ p n),I 0]):=by
  have:qT ((1,n):Q)=[S [49],S (aa n)]:=by simp only [qT,e1]
  rw [<- this];exact sc
 have b:=S5 [49] (aa n);simp (disch:=first|omega|simp<;>omega|fail)[hH];refine cd eq ?_;simp (disch:=first|omega|simp<;>omega|fail)[];refine cd of_ ?_;simp (disch:=first|omega|simp<;>omega|fail)[b];refine cd sc' ?_ (by simp [ae,aB,szV,dp]);simp (disch:=first|omega|simp<;>omega|fail)[];exact aj (ou _ _) rfl
theorem wd {p:List Int} {n:Nat} {s:List Q} {q:Int} (hp:pcB p=0) (hN:p.length<=20) (hl:0 < p.length) (h0:0 < n) (h1:n<=10000) (hr:okS (dZ p n)) (ls:s.length=p.length) (os:okS s) (hne:tq p (dZ p n)≠[]) (hq:yM p (wz p s (dZ p n)) (sJ p (dZ p n)) q) :
  CP Y F.ew [lst di p,I n,szV s] (.tup [S (itoa q),I 0]):=by
 refine s9 ?_;have st:=E3 hp hN hl h0 h1 hr;have lt:(dZ p n).length=p.length:=lU fun s hs=>by simp at hs;subst hs;simp [eV];omega
 have ro:=DO hp hN ls lt os hr hne hq;simp (disch:=first|omega|simp<;>omega|fail)[ew];refine cd st ?_;simp (disch:=first|omega|simp<;>omega|fail)[];refine cd ro ?_ (by simp [ae,szV,dp]);simp (disch:=first|omega|simp<;>omega|fail)[];exact aj rfl rfl
def me (p:List Int) (n:Nat) (q:Int):List Q:=j3 p.length [dZ p n] [(q,1)]
theorem JU {p:List Int} {n:Nat} {q:Int} (hp:pcB p=0) (hN:p.length<=20) (hl:0 < p.length) (h0:0 < n) (h1:n<=10000) (hr:okS (dZ p n)) (q1 : -1000000000000000000 < q) (q2:q < 1000000000000000000) (hr2:okS (me p n q)):CP Y F.ir [lst di p,I n,S (itoa q)] (.tup [szV (me p n q),I 0]):=by
 refine vw ?_;have st:=E3 hp hN hl h0 h1 hr;have lt:(dZ p n).length=p.length:=lU fun s hs=>by simp at hs;subst hs;simp [eV];omega
 have sc:=tG (p:=p) (s:=dZ p n) (k:=(q,1)) hp (by omega) lt hr (vg q q1 q2) hr2
 have sc':CP Y F.fc [lst di p,szV (dZ p n),.agg [S (itoa q),S [49]]] (.tup [szV (me p n q),I 0]):=by
  have:qT ((q,1):Q)=[S (itoa q),S [49]]:=by simp only [qT,dQ]
  rw [<- this];exact sc
 have b:=S5 (itoa q) [49];simp (disch:=first|omega|simp<;>omega|fail)[ir];refine cd st ?_;simp (disch:=first|omega|simp<;>omega|fail)[b];refine cd sc' ?_ (by simp [ae,aB,szV,dp]);simp (disch:=first|omega|simp<;>omega|fail)[];exact aj (ou _ _) rfl
def mr (p:List Int) (n:Nat) (q:Int) (s:List Q):List Q:=j3 p.length [me p n q,s] [(1,1),(-1,1)]
theorem rc {p:List Int} {n:Nat} (hl:0 < p.length):(dZ p n).length=p.length:=lU fun s hs=>by simp at hs;subst hs;simp [eV];omega
theorem sC {p:List Int} {n:Nat} {q:Int} (hl:0 < p.length):(me p n q).length=p.length:=lU fun s hs=>by simp at hs;subst hs;exact rc hl
theorem OD {p:List Int} {n:Nat} {q:Int} {s:List Q} (hp:pcB p=0) (hN:p.length<=20) (hl:0 < p.length) (h0:0 < n) (h1:n<=10000) (hr:okS (dZ p n)) (q1 : -1000000000000000000 < q) (q2:q < 1000000000000000000) (hr2:okS (me p n q)) (ls:s.length=p.length) (os:okS s) (hr3:okS (mr p n q s)) :
  CP Y F.jS [lst di p,I n,S (itoa q),szV s] (.tup [szV (mr p n q s),I 0]):=by
 refine yS ?_;have ti:=JU hp hN hl h0 h1 hr q1 q2 hr2;have sb:=Kq (p:=p) (s:=me p n q) (t:=s) hp (by omega) (sC hl) hr2 ls os hr3;simp (disch:=first|omega|simp<;>omega|fail)[jS];refine cd ti ?_ (by simp [ae,aB]);simp (disch:=first|omega|simp<;>omega|fail)[];refine cd sb ?_ (by simp [ae,szV,dp]);simp (disch:=first|omega|simp<;>omega|fail)[]
 exact aj (ou _ _) rfl
structure tj (p:List Int) (n:Nat) (r:List Int) (q:Int):Prop where
 hp:pcB p=0
 hN:p.length<=20
 hl:0 < p.length
 h0:0 < n
 h1:n<=10000
 lr:r.length=p.length
 sr:smR r=true
 st:okS (dZ p n)
 of:okS (ofQ r)
 ne:tq p (dZ p n)≠[]
 fl:yM p (wz p (ofQ r) (dZ p n)) (sJ p (dZ p n)) q
 q1 : -1000000000000000000 < q
 q2:q < 1000000000000000000
 ti:okS (me p n q)
 er:okS (mr p n q (ofQ r))
theorem AZ {p r:List Int} {n:Nat} {q:Int} (E:tj p n r q):CP Y F.eA [lst di p,I n,lst di r] (.tup [szV (mr p n q (ofQ r)),I 0]):=by
 refine tc ?_;have of_:=BM E.hp (by have:=E.hN;omega) E.lr E.sr;have lo:(ofQ r).length=p.length:=by simp [ofQ,E.lr]
 have ne:=wd E.hp E.hN E.hl E.h0 E.h1 E.st lo E.of E.ne E.fl;have off:=OD E.hp E.hN E.hl E.h0 E.h1 E.st E.q1 E.q2 E.ti lo E.of E.er;simp (disch:=first|omega|simp<;>omega|fail)[eA];refine cd of_ ?_;simp (disch:=first|omega|simp<;>omega|fail)[];refine cd ne ?_ (by simp [ae,szV,dp]);simp (disch:=first|omega|simp<;>omega|fail)[]
 refine cd off ?_ (by simp [ae,szV,dp]);simp (disch:=first|omega|simp<;>omega|fail)[];exact aj (ou _ _) rfl
def kI (p:List Int) (n:Nat) (r:List Int) (q z:Int):List Q:=Nh p (mr p n q (ofQ r)) z
theorem ve {p:List Int} {n:Nat} {q:Int} {s:List Q} (hl:0 < p.length) (hs:s.length=p.length):(mr p n q s).length=p.length:=lU fun t ht=>by
 simp at ht;rcases ht with rfl | rfl
 ·exact sC hl
 ·exact hs
theorem MC {p r:List Int} {n:Nat} {q z:Int} (E:tj p n r q) (hz:uZ p (mr p n q (ofQ r)) z) (z1 : -1<=z) (z2:z<=1):CP Y F.jc [lst di p,I n,lst di r] (.tup [szV (kI p n r q z),I 0]):=by
 refine wJ ?_;have er:=AZ E;have lo:(ofQ r).length=p.length:=by simp [ofQ,E.lr]
 have ab:=Ng E.hp (by have:=E.hN;omega) (ve (n:=n) (q:=q) E.hl lo) E.er hz z1 z2;simp (disch:=first|omega|simp<;>omega|fail)[jc];refine cd er ?_;simp (disch:=first|omega|simp<;>omega|fail)[];refine cd ab ?_ (by simp [ae,szV,dp]);simp (disch:=first|omega|simp<;>omega|fail)[];exact aj (ou _ _) rfl
theorem Mw {p:List Int} {a b:List Q} {z:Int} (hp:pcB p=0) (hN:p.length < 1000) (ha:a.length=p.length) (hb:b.length=p.length) (oa:okS a) (ob:okS b) (hz:uZ p (dfS p a b) z):CP Y F.jb [lst di p,szV a,szV b] (B (decide (z < 0))):=by
 refine wI ?_;have co:=zn hp hN ha hb oa ob hz;simp (disch:=first|omega|simp<;>omega|fail)[jb];refine cd co ?_ (by simp [ae,szV,dp]);simp (disch:=first|omega|simp<;>omega|fail)[] <;> exact iQ rfl
def dvC (p:List Int) (n:Int):Int:=if pcB p=0 then (if n < 1∨10000 < n then 3 else 0) else pcB p
theorem A3 {p:List Int} {n:Int} (hN:p.length < 1000000):CP Y F.gA [lst di p,I n] (I (dvC p n)):=by
 refine vy ?_;unfold dvC;simp (disch:=first|omega|simp<;>omega|fail)[gA];refine cd (gW (by omega)) ?_;by_cases h:pcB p=0
 ·rw [if_pos h];by_cases c1:n < 1
  ·rw [if_pos (.inl c1)];simp (disch:=first|omega|simp<;>omega|fail)[h,c1] <;> exact bG rfl
  ·by_cases c2:10000 < n
   ·rw [if_pos (.inr c2)];simp (disch:=first|omega|simp<;>omega|fail)[h,c1,c2] <;> exact bG rfl
   ·rw [if_neg (by omega)];simp (disch:=first|omega|simp<;>omega|fail)[h,c1,c2] <;> exact bG rfl
 ·rw [if_neg h];simp (disch:=first|omega|simp<;>omega|fail)[h] <;> exact bG rfl
structure Nl (p r:List Int) (lim:Nat) (qf zf:Nat->Int) (ls:Nat->Nat->Bool):Prop where
 er:∀ n,1<=n->n<=lim->tj p n r (qf n)
 sg:∀ n,1<=n->n<=lim->uZ p (mr p n (qf n) (ofQ r)) (zf n)∧-1<=zf n∧zf n<=1
 ok:∀ n,1<=n->n<=lim->okS (kI p n r (qf n) (zf n))
 cm:∀ n m,1<=m->m < n->n<=lim->∃ z,uZ p (dfS p (kI p n r (qf n) (zf n)) (kI p m r (qf m) (zf m))) z∧decide (z < 0)=ls n m
def eB (ls:Nat->Nat->Bool):Nat->Nat->Nat->List Int
 | 0,_,_=>[]
 | f+1,n,m=>if m=0∨ls n m=true then (n:Int) :: eB ls f (n+1) n else eB ls f (n+1) m
def acR:Acc:=⟨0,0,1,.none⟩
theorem rO {p r:List Int} {n:Nat} {q z:Int} (hl:0 < p.length) (hr:r.length=p.length):(kI p n r q z).length=p.length:=lU fun t ht=>by
 simp at ht;subst ht;exact ve hl (by simp [ofQ,hr])
theorem tM {p r:List Int} {lim:Nat} {qf zf:Nat->Int} {ls:Nat->Nat->Bool} (R:Nl p r lim qf zf ls) (hlim:lim<=500) (k:KL) (h0:Hp) (hh:h0.length=1):∀ (f n m:Nat) (out0:List Int) (best:V),n+f=lim+1->1<=n->out0.length < n->m < n->(m=0->n=1)->(m≠0->best=szV (kI p m r (qf m) (zf m)))->(m=0->best=kE) ->
  (k (.exit 0) [acR.v (out0++eB ls f n m).length ((out0++eB ls f n m).map di)] [acR.b (out0++eB ls f n m).length ((out0++eB ls f n m).map di)]) ->
  lp (ii (CX Y) (lst di p) (lst di r) (I lim)) [] h0 [acR.v out0.length (out0.map di),best,I n] [acR.b out0.length (out0.map di)] k
 | 0,n,m,out0,best,hf,hn,ho,hm,hm0,hb,hb0,hk=>by
  have g:¬ (n:Int)<=(lim:Int):=by omega
  refine ai ?_;simp (disch:=first|omega|simp<;>omega|fail)[ii,g];simpa [eB] using hk
 | f+1,n,m,out0,best,hf,hn,ho,hm,hm0,hb,hb0,hk=>by
  have g:(n:Int)<=(lim:Int):=by omega
  obtain ⟨s1,s2,s3⟩:=R.sg n hn (by omega);have E:=R.er n hn (by omega);have aw:=MC E s1 s2 s3;refine ai ?_;simp (disch:=first|omega|simp<;>omega|fail)[ii,g];refine bm ?_;simp (disch:=first|omega|simp<;>omega|fail)[];refine cd aw ?_ (by simp [ae,aB])
  have li1:∀ (z:Int) (H:Hp),dt 1 [D.int IntKind.i64 0] [(0,I z)] H=some ([di z],H):=fun z H=>by simp [dt,fW,iA,toD,di]
  have cR:(out0.map di).length=out0.length * acR.n:=by simp [acR]
  by_cases h1:n=1
  ·subst h1;have hm1:m=0:=by omega
   subst hm1;have ih:=tM R hlim k h0 hh f 2 1 (out0++[1]) (szV (kI p 1 r (qf 1) (zf 1))) (by omega) (by omega) (by simp;omega) (by omega) (by omega) (fun _=>rfl) (by omega) (by simpa [eB] using hk);simp (disch:=first|omega|simp<;>omega|fail)[];refine bm ?_;simp (disch:=first|omega|simp<;>omega|fail)[li1]
   refine mJ acR (k:=1) (by omega) rfl cR (by rfl) rfl (fun t e=>by cases e) (by omega) (by decide) ?_;have cJ:∀ x y:Nat × Bk,([x]:Hp).set acR.s y=[y]:=fun x y=>rfl
   have hre:∀ x:Hp,x.length=1->ax [] 0 h0 x=x:=fun x hx=>dK 0 h0 x (by omega)
   have ov:=qU acR [] (out0.length+1) (out0.map di++[di 1]) rfl;have ob:=qV acR [] (out0.length+1) (out0.map di++[di 1]) rfl;simp (disch:=first|omega|simp<;>omega|fail)[cJ,hre,clean,dT,k8,kZ,dd,iF,szV,dp];refine ⟨rfl,?_⟩;have ev:∀ c,acR.v (out0.length+1) c=.ref acR.s (acR.e+1) 0 (out0.length+1) (out0.length+1) c.length:=fun c=>rfl
   have eb:∀ c,acR.b (out0.length+1) c=(acR.e+1,.data acR.n c false false):=fun c=>rfl
   simpa [szV,dp,ev,eb] using ih
  ·have hm1:m≠0:=fun e=>h1 (hm0 e)
   obtain ⟨z,cz,hz⟩:=R.cm n m (by omega) hm (by omega);obtain rfl:=hb hm1;have lA:=rO (n:=n) (q:=qf n) (z:=zf n) E.hl E.lr;have lB:=rO (n:=m) (q:=qf m) (z:=zf m) E.hl E.lr;have le:=Mw E.hp (by have:=E.hN;omega) lA lB (R.ok n hn (by omega)) (R.ok m (by omega) (by omega)) cz;rw [hz] at le;have h1':¬ (n:Int)=1:=by omega
   have sn:∀ (h:Hp) (x y:List Q),ae h [lst di p,szV x,szV y]=some ([lst di p,szV x,szV y],h):=fun h x y=>by simp [ae,szV,dp]
   have hre:∀ x:Hp,x.length=1->ax [] 0 h0 x=x:=fun x hx=>dK 0 h0 x (by omega)
   simp (disch:=first|omega|simp<;>omega|fail)[h1'];refine cd le ?_ (sn _ _ _);cases hl:ls n m with
   | true=>
    have ih:=tM R hlim k h0 hh f (n+1) n (out0++[(n:Int)]) (szV (kI p n r (qf n) (zf n))) (by omega) (by omega) (by simp;omega) (by omega) (by omega) (fun _=>rfl) (by omega) (by simpa [eB,hm1,hl] using hk);simp (disch:=first|omega|simp<;>omega|fail)[];refine bm ?_;simp (disch:=first|omega|simp<;>omega|fail)[li1]
    refine mJ acR (k:=1) (by omega) rfl cR (by rfl) rfl (fun t e=>by cases e) (by omega) (by decide) ?_;have cJ:∀ x y:Nat × Bk,([x]:Hp).set acR.s y=[y]:=fun x y=>rfl
    simp (disch:=first|omega|simp<;>omega|fail)[cJ,hre,clean,dT,k8,kZ,dd,iF,szV,dp];refine ⟨rfl,?_⟩;have ev:∀ c,acR.v (out0.length+1) c=.ref acR.s (acR.e+1) 0 (out0.length+1) (out0.length+1) c.length:=fun c=>rfl
    have eb:∀ c,acR.b (out0.length+1) c=(acR.e+1,.data acR.n c false false):=fun c=>rfl
    simpa [szV,dp,ev,eb] using ih
   | false=>
    have ih:=tM R hlim k h0 hh f (n+1) m out0 (szV (kI p m r (qf m) (zf m))) (by omega) (by omega) (by omega) (by omega) (by omega) (fun _=>rfl) (by omega) (by simpa [eB,hm1,hl] using hk);have ov:=qU acR [] out0.length (out0.map di) rfl;have ob:=qV acR [] out0.length (out0.map di) rfl;simp (disch:=first|omega|simp<;>omega|fail)[];refine bm ?_
    simp (disch:=first|omega|simp<;>omega|fail)[hre,clean,dT,k8,kZ,dd,ov,ob,iF,szV,dp];simpa [szV,dp] using ih
theorem yb {p r:List Int} {lim:Nat} {qf zf:Nat->Int} {ls:Nat->Nat->Bool} (R:Nl p r lim qf zf ls) (hlim:lim<=500) (hl1:1<=lim):CP Y F.bz [lst di p,lst di r,I lim] (.tup [lst di (eB ls lim 1 0),I 0]):=by
 refine nr ?_;have E:=R.er 1 (Z7 _) hl1;have pc:=gW (p:=p) (by have:=E.hN;omega);rw [E.hp] at pc;have mc:=tW (p:=p) (r:=r) (by have:=E.hN;omega);rw [Gp E.hp E.lr E.sr] at mc;have g1:¬ (lim:Int) < 1:=by omega
 have g2:¬ (500:Int) < (lim:Int):=by omega
 have rl:=tM R hlim (exK [((.exit 0),fun l9 h=>out (.tup [lst di (eB ls lim 1 0),I 0]) (.tup [(ge l9 0),(.d (.int .i64 0))]) h),(.ret,fun l9 h=>out (.tup [lst di (eB ls lim 1 0),I 0]) (.tup [(ge l9 0),(ge l9 1)]) h)]) [(0,.none)] rfl lim 1 0 [] kE (by omega) (by omega) (by simp) (by omega) (by omega) (by omega) (fun _=>rfl) (by
  simp only [List.nil_append];generalize eB ls lim 1 0=w;simp (disch:=first|omega|simp<;>omega|fail)[];obtain ⟨h',q1,_⟩:=nD acR (L:=w.length) (cells:=w.map di) (h:=[acR.b w.length (w.map di)]) rfl (by simp [acR]);exact aj q1 rfl)
 simp (disch:=first|omega|simp<;>omega|fail)[bz];refine cd pc ?_;simp (disch:=first|omega|simp<;>omega|fail)[];refine cd mc ?_;simp (disch:=first|omega|simp<;>omega|fail)[g1,g2];exact rl
end Go.Vm
