/- The terms of a size: near, quick. -/
import Derived.Test.YtaiahkcmdnaooaaGreatDoorQRefRow
import Derived.Test.YtaiahkcmdnaooaaGreatDoorQT
set_option linter.unusedVariables false
set_option linter.unusedSimpArgs false
namespace Go.Vm
open Go Go.Am Go.Big
theorem vL:∀ (r low high out a:Nat),tJ r low high out=some a->a<(out+1)*2 ^ r
 | 0,low,high,out,a,h=>by simp only [tJ,Z9] at h;subst h;simp
 | r+1,low,high,out,a,h=>by
  have e:∀ x:Nat,(x+1)*2 ^ (r+1)=(2*x+2)*2 ^ r:=fun x=>by rw [Nat.pow_succ,Zy (2 ^ r) 2,<- Nat.mul_assoc];congr 1;omega
  rw [e];simp only [tJ] at h;cases c1:Nat.ble E63 (low*low / E62) with
  | true=>
   rw [c1] at h;have:=vL r _ _ _ a h
   rwa [show out*2+1+1=2*out+2 by omega] at this
  | false=>
   rw [c1] at h;cases c2:Nat.ble E63 (high*high / E62+1) with
   | true=>rw [c2] at h;cases h
   | false=>
    rw [c2] at h;have:=vL r _ _ _ a h;exact Z0 this (Z3 _ aa)
theorem R2 {p a:Nat} (hp:2<=p) (hp2:p<1000000) (h:u7 p=some a):a<1342177280:=by
 obtain ⟨hk0,hpk,hk1⟩:=nO (n:=p) aa
 have hk20:bA p<=20:=by
  have:2 ^ (bA p-1)<2 ^ 20:=aa;have:=(Y3 (by decide:1<2)).1 this;omega
 have:=vL _ _ _ _ _ h;have h2:(bA p-1+1)*2 ^ 26<=20*2 ^ 26:=Z3 _ aa;omega
theorem WJ (x y:Int):mx2 false x y=min x y:=by unfold mx2;simp;omega
theorem Ls (x y:Int):mx2 true x y=max x y:=by unfold mx2;simp;omega
def gv (most:Int):List (Int × Int)->Int × Int->Option (Int × Int)
 | [],a=>some a
 | t::ts,a=>if most<t.2∨t.2 < -most then none else match u7 t.1.toNat with
  | none=>none
  | some f=>
   let b:Int:=if t.1=2 then f else f+1
   gv most ts (a.1+min (t.2*f) (t.2*b),a.2+max (t.2*f) (t.2*b))
def neV:Option (Int × Int)->V
 | some a=>.tup [I a.1,I a.2,B true]
 | none=>.tup [I 0,I 0,B false]
def pL (ts:List (Int × Int)) (d:Nat) (n lo hi:Int) (b:Bool):Hp:=[(1,.vars ((tmD ts d).map .d)),(1,.vars [I n]),(1,.vars [I lo]),(1,.vars [I hi]),(1,.vars [B b])]
theorem BV {d:Nat} {most:Int} (hm0:0<=most) (hm:most<=10000000) {tt:List (Int × Int)} (k:Exit->Hp->Prop) (h0:Hp) (hh:h0.length=5):∀ (ts:List (Int × Int)) (lo hi B:Int),(∀ t∈ts,2<=t.1∧t.1<1000000∧t.2.natAbs<9223372036854775808)->B+ts.length*13421772810000000<=9000000000000000000->-B<=lo->lo<=B->-B<=hi->hi<=B ->
  (∀ a,gv most ts (lo,hi)=some a->k .normal (pL tt d most a.1 a.2 false))->(gv most ts (lo,hi)=none->k .ret (pL tt d most 0 0 false)) ->
  rg 2 (dL (CX Y) (.ptr 1 1 0 1) (.ptr 2 1 0 1) (.ptr 3 1 0 1) (.ptr 4 1 0 1)) [] h0 k (tmX ts) (pL tt d most lo hi false)
 | [],lo,hi,Bd,hl,hb,h1,h2,h3,h4,hk,hn=>by
  simpa [tmX,rg] using hk (lo,hi) rfl
 | t::ts,lo,hi,Bd,hl,hb,h1,h2,h3,h4,hk,hn=>by
  obtain ⟨l1,l2,l3⟩:=hl t ag;have sm:=vv (z:=t.2) l3;obtain ⟨p,hp⟩:∃ p:Nat,t.1=p:=⟨t.1.toNat,aa⟩;have hpn:t.1.toNat=p:=aa;have fa:=fast_ok (p:=p) aa aa;rw [<- hp] at fa;have eL:([.int .i64 t.1,.string ⟨⟨itoa t.2⟩⟩]:List Value).map (fun v=>V.d (iD v))=[I t.1,S (itoa t.2)]:=rfl;simp only [gv,hpn] at hk hn
  have hlen:∀ x:Hp,x.length=5->aC [] 0 h0 x=x:=fun x hx=>bO 0 h0 x aa
  simp only [tmX,Zz];refine GC rfl ?_;rw [eL];by_cases c1:most<t.2
  ·rw [if_pos (.inl c1)] at hn;simp (disch:=try exact ac)[dL,pL,tmD];refine cd sm ?_ (by simp [ai,aF]);simp (disch:=try exact ac)[c1];simpa [pL,tmD] using hn rfl
  ·by_cases c2:t.2 < -most
   ·rw [if_pos (.inr c2)] at hn;simp (disch:=try exact ac)[dL,pL,tmD];refine cd sm ?_ (by simp [ai,aF]);simp (disch:=try exact ac)[c1,c2];simpa [pL,tmD] using hn rfl
   ·rw [if_neg aa] at hn;simp only [show ¬ (most<t.2∨t.2 < -most) by omega,if_false] at hk;cases hf:u7 p with
    | none=>
     rw [hf] at fa hn;simp (disch:=try exact ac)[dL,pL,tmD];refine cd sm ?_ (by simp [ai,aF]);simp (disch:=try exact ac)[c1,c2];refine cd fa ?_;simp (disch:=try exact ac)[R3];simpa [pL,tmD] using hn rfl
    | some f=>
     have hflt:=R2 aa aa hf;rw [hf] at fa hk hn;simp only at hk hn;obtain ⟨b,hb'⟩:∃ b:Int,b=(if t.1=2 then (f:Int) else f+1):=⟨_,rfl⟩;rw [<- hb'] at hk hn;have hbb:(f:Int)<=b∧b<=f+1:=by subst hb';split <;> omega
     obtain ⟨x,hx⟩:∃ x:Int,x=t.2*f:=⟨_,rfl⟩;obtain ⟨y,hy⟩:∃ y:Int,y=t.2*b:=⟨_,rfl⟩
     have bd:∀ z:Int,0<=z->z<=1342177281->-13421772810000000<=t.2*z∧t.2*z<=13421772810000000:=by
      intro z hz0 hz;have a1:t.2*z<=10000000*z:=Zr aa hz0;have a2:(-10000000)*z<=t.2*z:=Zr aa hz0;omega
     have bx:=bd f aa aa;have by_:=bd b aa aa;rw [<- hx] at bx hk hn;rw [<- hy] at by_ hk hn;have ih:=BV (tt:=tt) (d:=d) hm0 hm k h0 hh ts (lo+min x y) (hi+max x y) (Bd+13421772810000000) (fun t ht=>hl t (by simp [ht])) (by simp at hb;omega) aa aa aa aa hk hn;simp at hb
     have m1:biI .mul (I t.2) (I (f:Int))=some (I x):=by rw [mO,<- hx,wrap_i64 ⟨aa,aa⟩]
     have m2:biI .mul (I t.2) (I b)=some (I y):=by rw [mO,<- hy,wrap_i64 ⟨aa,aa⟩]
     have tail:∀ q:Exit->Hp->Prop,q .normal (pL tt d most (lo+min x y) (hi+max x y) false)->jn (fun l26 h=>
       bnd (ld1 h (.ptr 2 1 0 1)) fun v28=>
       bnd (biI .mul (I t.2) (I (f:Int))) fun v29=>
       bnd (biI .mul (I t.2) (ge l26 0)) fun v30=>
       bnd (mxI false [v29,v30]) fun v31=>
       bnd (biI .add v28 v31) fun v32=>
       bnd (ld1 h (.ptr 3 1 0 1)) fun v33=>
       bnd (biI .mul (I t.2) (I (f:Int))) fun v34=>
       bnd (biI .mul (I t.2) (ge l26 0)) fun v35=>
       bnd (mxI true [v34,v35]) fun v36=>
       bnd (biI .add v33 v36) fun v37=>
       sp h (.ptr 2 1 0 1) [.ptr 3 1 0 1] <| stD h 1 (.ptr 2 1 0 1) v32 fun _ h=>
       stD h 1 (.ptr 3 1 0 1) v37 fun _ h=>
       q .normal h) fun q27=>q27 [I b] (pL tt d most lo hi false):=by
      intro q hq;rw [JD (l:=[I b]) (h:=pL tt d most lo hi false) (fun q=>rfl)];have x1:mxI false [I x,I y]=some (I (min x y)):=by simp only [mxI,WJ]
      have x2:mxI true [I x,I y]=some (I (max x y)):=by simp only [mxI,Ls]
      have a1:biI .add (I lo) (I (min x y))=some (I (lo+min x y)):=by rw [vR,wrap_i64 ⟨aa,aa⟩]
      have a2:biI .add (I hi) (I (max x y))=some (I (hi+max x y)):=by rw [vR,wrap_i64 ⟨aa,aa⟩]
      generalize lo+min x y=lo2 at *;generalize hi+max x y=hi2 at *;simp (disch:=try exact ac)[pL,tmD,m1,m2,x1,x2,a1,a2];refine Im (by rfl) ?_;simpa [pL,tmD] using hq
     have hne1:biI .add (I (f:Int)) (.d (.int .i64 1))=some (I ((f:Int)+1)):=by rw [vR,wrap_i64 ⟨aa,aa⟩]
     have fin:qG [] 0 (pL tt d most (lo+min x y) (hi+max x y) false)=true∧rg 2 (dL (CX Y) (.ptr 1 1 0 1) (.ptr 2 1 0 1) (.ptr 3 1 0 1) (.ptr 4 1 0 1)) [] h0 k (tmX ts) (aC [] 0 h0 (pL tt d most (lo+min x y) (hi+max x y) false)):=by
      rw [hlen _ (by rfl)];exact ⟨by simp [pL,tmD,oe,od,eC,wi,fF,kZ],ih⟩
     simp (disch:=try exact ac)[dL,pL,tmD];refine cd sm ?_ (by simp [ai,aF]);simp (disch:=try exact ac)[c1,c2];refine cd fa ?_
     have tl:=tail (fun ex h'=>match ex with
      | .normal=>qG [] 0 h'=true∧rg 2 (dL (CX Y) (.ptr 1 1 0 1) (.ptr 2 1 0 1) (.ptr 3 1 0 1) (.ptr 4 1 0 1)) [] h0 k (tmX ts) (aC [] 0 h0 h')
      | ex=>k ex h') fin
     rw [JD (l:=[I b]) (h:=pL tt d most lo hi false) (fun q=>rfl)] at tl;simp (disch:=try exact ac)[R3,hne1];refine fY (l:=[I b]) (h:=pL tt d most lo hi false) (fun q=>?_) ?_
     ·by_cases h2':t.1=2
      ·rw [if_pos h2'] at hb';rw [decide_eq_true h2',hb'];rfl
      ·rw [if_neg h2'] at hb';rw [decide_eq_false h2',hb'];rfl
     ·exact tl
theorem BU {ts:List (Int × Int)} {d:Nat} {most:Int} (hm0:0<=most) (hm:most<=10000000) (hl:∀ t∈ts,2<=t.1∧t.1<1000000∧t.2.natAbs<9223372036854775808) (hb:ts.length<=600):CP Y F.cY [tmV ts d,I most] (neV (gv most ts (0,0))):=by
 refine xg ?_;have al:=S4 ts d;have al':CP Y F.fj [.agg [.d (.sl ts.length (ts.map tmP)),.d (.sl ts.length (ts.map tmK)),S (ah d)]] (.fn F.dD [] [.dptr (tmD ts d) 0]):=al
 have nl:=BV (d:=d) (most:=most) hm0 hm (tt:=ts) (fun ex h=>exK [(.ret,fun _ h=>
  bnd (ld1 h (.ptr 2 1 0 1)) fun v8=>
  bnd (ld1 h (.ptr 3 1 0 1)) fun v9=>
  bnd (ld1 h (.ptr 4 1 0 1)) fun v10=>
  out (neV (gv most ts (0,0))) (.tup [v8,v9,v10]) h),
  (.normal,fun _ h=>
   bnd (ld1 h (.ptr 2 1 0 1)) fun v11=>
   bnd (ld1 h (.ptr 3 1 0 1)) fun v12=>
   sp h (.ptr 2 1 0 1) [.ptr 3 1 0 1] <| stD h 1 (.ptr 2 1 0 1) v11 fun _ h=>
   stD h 1 (.ptr 3 1 0 1) v12 fun _ h=>
   stD h 1 (.ptr 4 1 0 1) (.d (.bool true)) fun _ h=>
   bnd (ld1 h (.ptr 2 1 0 1)) fun v16=>
   bnd (ld1 h (.ptr 3 1 0 1)) fun v17=>
   bnd (ld1 h (.ptr 4 1 0 1)) fun v18=>
   out (neV (gv most ts (0,0))) (.tup [v16,v17,v18]) h)] ex [] h) (pL ts d most 0 0 false) rfl ts 0 0 0 hl aa aa aa aa aa (fun a ha=>by
   rw [ha];simp (disch:=try exact ac)[pL,tmD];refine Im (by rfl) ?_;exact jc rfl rfl rfl) (fun ha=>by
   rw [ha];simp (disch:=try exact ac)[pL,tmD];exact jc rfl rfl rfl)
 simp (disch:=try exact ac)[cY,tmV];refine cd al' ?_ (by simp [ai,aF]);simp (disch:=try exact ac)[];refine ro (Vf aa d) ?_;simp only [pL,tmD,Zz,Yt] at nl;exact nl
def okT (ts:List (Int × Int)):Prop:=ts.length<=600∧∀ t∈ts,2<=t.1∧t.1<1000000∧t.2.natAbs<9223372036854775808
theorem xC {ts:List (Int × Int)} (h:okT ts):∀ t∈ts,ndg t.2.natAbs<=100000:=fun t ht=>
 Z1 (bf (d:=19) (by have:=(h.2 t ht).2.2;omega) ae) ae
def mC (ts:List (Int × Int)):Int:=match gv 10000000 ts (0,0) with
 | none=>0
 | some a=>if 0<=a.1 then 1 else if a.2<=0 then -1 else 0
theorem QG {ts:List (Int × Int)} {d:Nat} (h:okT ts):CP Y F.fR [tmV ts d] (I (mC ts)):=by
 refine wA ?_;have ne:=BU (d:=d) (most:=10000000) ae ae h.2 h.1;have ne':CP Y F.cY [.agg [.d (.sl ts.length (ts.map tmP)),.d (.sl ts.length (ts.map tmK)),S (ah d)],I 10000000] (neV (gv 10000000 ts (0,0))):=ne;simp (disch:=try exact ac)[fR,tmV];refine cd ne' ?_ (by simp [ai,aF]);unfold mC
 cases gv 10000000 ts (0,0) with
 | none=>
  simp (disch:=try exact ac)[neV]
 | some a=>
  simp only;by_cases c1:0<=a.1
  ·rw [if_pos c1];simp (disch:=try exact ac)[neV,c1]
  ·rw [if_neg c1];by_cases c2:a.2<=0
   ·rw [if_pos c2];simp (disch:=try exact ac)[neV,c1,c2]
   ·rw [if_neg c2];simp (disch:=try exact ac)[neV,c1,c2]
def Ab (ts:List (Int × Int)):Prop:=∀ i,i<6->T6 (64*2 ^ i) ts
def yR (ts:List (Int × Int)):Nat->Nat->Option Int
 | 0,_=>none
 | r+1,n=>if 0<=(aM n ts (0,0)).1 then some 1 else if (aM n ts (0,0)).2<=0 then some (-1) else yR ts r (n*2)
def xk (ts:List (Int × Int)):Option Int:=match ts with
 | []=>some 0
 | _=>if mC ts≠0 then some (mC ts) else yR ts 6 64
theorem K0 (z:Int):0<=sgn z↔0<=z:=by unfold sgn;split <;> (try split) <;> omega
theorem wB (z:Int):sgn z<=0↔z<=0:=by unfold sgn;split <;> (try split) <;> omega
theorem BR {ts:List (Int × Int)} {d:Nat} (h:okT ts) (hl:Ab ts) (k:KL) (h0:Hp) (hh:h0.length=1):∀ (r i:Nat) (s:Int),i+r=6->yR ts r (64*2 ^ i)=some s->(∀ h,k .ret [I s] h) ->
  lp (mS (CX Y) (.ptr 0 1 0 3)) [] h0 [I ((64*2 ^ i:Nat):Int)] [(1,.vars ((tmD ts d).map .d))] k
 | 0,i,s,hi,hs,hk=>by simp [yR] at hs
 | r+1,i,s,hi,hs,hk=>by
  have hn:64*2 ^ i<=3900:=by
   have:2 ^ i<=2 ^ 5:=Z2 ae aa;omega
  have en:=Ha (n:=64*2 ^ i) (d:=d) hn (hl i aa) (xC h) (by have:=h.1;omega);have en':CP Y F.cZ [.agg [.d (.sl ts.length (ts.map tmP)),.d (.sl ts.length (ts.map tmK)),S (ah d)],I ((64*2 ^ i:Nat):Int)] (.tup [S (itoa (aM (64*2 ^ i) ts (0,0)).1),S (itoa (aM (64*2 ^ i) ts (0,0)).2)]):=en
  have hd:64*2 ^ i*2=64*2 ^ (i+1):=by rw [Nat.pow_succ,<- Nat.mul_assoc]
  simp only [yR,hd] at hs;generalize aM (64*2 ^ i) ts (0,0)=e at *;have ih:=BR (d:=d) h hl k h0 hh r (i+1) s aa;have hm:((64*2 ^ i:Nat):Int)*2=((64*2 ^ (i+1):Nat):Int):=by rw [<- hd];omega
  generalize 64*2 ^ (i+1)=m2 at *;generalize 64*2 ^ i=m at *;have s1:=kr e.1;have s2:=kr e.2;have n1:=K0 e.1;have n2:=wB e.2;refine am ?_;simp (disch:=try exact ac)[mS,tmD];refine cd en' ?_ (by simp [ai,aF]);simp (disch:=try exact ac)[];refine cd s1 ?_ (by simp [ai,aF]);by_cases c1:0<=e.1
  ·rw [if_pos c1] at hs;simp only [Z9] at hs;subst hs;have c1':0<=sgn e.1:=n1.2 c1;simp (disch:=try exact ac)[c1'];exact hk _
  ·rw [if_neg c1] at hs;have c1':¬ 0<=sgn e.1:=fun x=>c1 (n1.1 x)
   simp (disch:=try exact ac)[c1'];refine cd s2 ?_ (by simp [ai,aF]);by_cases c2:e.2<=0
   ·rw [if_pos c2] at hs;simp only [Z9] at hs;subst hs;have c2':sgn e.2<=0:=n2.2 c2;simp (disch:=try exact ac)[c2'];exact hk _
   ·rw [if_neg c2] at hs;have c2':¬ sgn e.2<=0:=fun x=>c2 (n2.1 x)
    have ih:=ih hs hk;simp (disch:=try exact ac)[c2',hm];exact ih
theorem IC {ts:List (Int × Int)} {d:Nat} (h:okT ts) (hl:Ab ts) {z:Int} (hs:xk ts=some z):CP Y F.eG [tmV ts d] (I z):=by
 refine xf ?_;have qo:=QG (d:=d) h;have qo':CP Y F.fR [.agg [.d (.sl ts.length (ts.map tmP)),.d (.sl ts.length (ts.map tmK)),S (ah d)]] (I (mC ts)):=qo;cases hts:ts with
 | nil=>
  subst hts;simp only [xk,Z9] at hs;subst hs;simp (disch:=try exact ac)[eG,tmV,bm]
 | cons t r=>
  have hne:¬ ts=[]:=by rw [hts];simp
  have hs':(if mC ts≠0 then some (mC ts) else yR ts 6 64)=some z:=by rw [hts] at hs ⊢;exact hs
  rw [<- hts];have ll:bm (.d (.sl ts.length (ts.map tmP)))=some (I ts.length):=rfl;by_cases hq:mC ts=0
  ·rw [if_neg (by simpa using hq)] at hs'
   have sl:=BR (d:=d) h hl (exK [(.ret,fun l9 h=>out (I z) (ge l9 0) h)]) [(1,.vars ((tmD ts d).map .d))] rfl 6 0 z rfl hs' (fun h=>by
    simp (disch:=try exact ac)[])
   simp only [tmD,Zz,Yt] at sl;rw [hq] at qo';simp (disch:=try exact ac)[eG,tmV,ll,hne];refine cd qo' ?_ (by simp [ai,aF]);simp (disch:=try exact ac)[];exact sl
  ·rw [if_pos (by simpa using hq)] at hs';simp only [Z9] at hs';subst hs';simp (disch:=try exact ac)[eG,tmV,ll,hne];refine cd qo' ?_ (by simp [ai,aF]);simp (disch:=try exact ac)[hq]
def tq (p:List Int) (s:List Q):List (Int × Int):=dI (fN 1 s) p s
def vU (p:List Int) (s:List Q) (z:Int):Prop:=okT (tq p s)∧Ab (tq p s)∧xk (tq p s)=some z
theorem FL {p:List Int} {s:List Q} (hp:pcB p=0) (hN:p.length<1000000) (hl:s.length=p.length) (hs:okS s):CP Y F.j3 [lst di p,szV s] (I 0):=by
 have:=IB (p:=p) (s:=s.map tx) aa (fun x hx=>by
  obtain ⟨y,hy,rfl⟩:=Zi.1 hx;obtain ⟨l1,l2⟩:=F8 (hs y hy).2;omega) ak
 unfold siB scB at this;rw [if_pos hp,List.length_map,if_pos hl,Gc hs] at this;exact this
theorem Vb {p:List Int} {s:List Q} {z:Int} (hp:pcB p=0) (hN:p.length<3000) (hl:s.length=p.length) (hs:okS s) (hz:vU p s z):CP Y F.qh [lst di p,szV s] (.tup [I z,I 0]):=by
 refine IA ?_;obtain ⟨h1,h2,h3⟩:=hz;have ck:=FL hp aa hl hs;have to_:=qv (p:=p) (s:=s) (K:=30) aa hl.symm hs aa ae;have si:=IC (d:=fN 1 s) h1 h2 h3;simp (disch:=try exact ac)[qh];refine cd ck ?_ (by simp [ai,szV,bU]);simp (disch:=try exact ac)[];refine cd to_ ?_ (by simp [ai,szV,bU])
 simp (disch:=try exact ac)[];refine cd si ?_ (by simp [ai,aF,tmV]);exact ax rfl rfl
def dfS (p:List Int) (a b:List Q):List Q:=kI p.length [a,b] [(1,1),(-1,1)]
theorem MQ:okK 1 [(1,1),(-1,1)]:=fun x hx=>by
 simp at hx;rcases hx with rfl | rfl
 ·exact ⟨⟨ae,ae⟩,bf ae ae,bf ae ae⟩
 ·exact ⟨⟨ae,ae⟩,bf ae ae,bf ae ae⟩
theorem LW {p:List Int} {a b:List Q} {z:Int} (hN:p.length<1000) (ha:a.length=p.length) (hb:b.length=p.length) (oa:okS a) (ob:okS b) (hz:vU p (dfS p a b) z):CP Y F.lZ [lst di p,szV a,szV b] (I z):=by
 refine Cd ?_;obtain ⟨h1,h2,h3⟩:=hz
 have hab:∀ s ∈ [a,b],s.length=p.length∧okK 30 s:=fun s hs=>by
  simp at hs;rcases hs with rfl | rfl
  ·exact ⟨ha,oa⟩
  ·exact ⟨hb,ob⟩
 have su:=B3 (n:=p.length) (l:=[a,b]) (fs:=[(1,1),(-1,1)]) (Ks:=30) (Kk:=1) aa ag rfl ae ag hab MQ;have oK:okK 65 (dfS p a b):=A7 (Ks:=30) (Kk:=1) (Ko:=1) (w8 _) (fun s hs=>(hab s hs).2) MQ
 have hl:(dfS p a b).length=p.length:=by
  unfold dfS kI;rw [qw (fun s hs=>by simpa using (hab s hs).1)];simp
 have to_:=qv (p:=p) (s:=dfS p a b) (K:=65) aa hl.symm oK aa ae;have si:=IC (d:=fN 1 (dfS p a b)) h1 h2 h3;have l1:∀ H,dF 2 [D.pl (Value.slice none 0 0)] [(0,szV a),(1,szV b)] H=some ([szD a,szD b],H):=fun H=>OJ ..
 have l2:∀ H,dF 2 [D.str [],D.str []] [(0,.agg (qT (1,1))),(1,.agg (qT (-1,1)))] H=some (aV (tx (1,1))++aV (tx (-1,1)),H):=fun H=>Ri (1,1) (-1,1) H
 have l3:bm (lst di p)=some (I p.length):=rfl;simp (disch:=try exact ac)[lZ,l1,l3];refine cd (gM (z:=1) aa aa) ?_;simp (disch:=try exact ac)[];refine cd (gM (z:=-1) aa aa) ?_;simp (disch:=try exact ac)[l2];refine cd (v:=szV (dfS p a b)) su ?_ (by simp [ai,aF,norm])
 simp (disch:=try exact ac)[];refine cd to_ ?_ (by simp [ai,szV,bU]);simp (disch:=try exact ac)[];refine cd si ?_ (by simp [ai,aF,tmV]);simp (disch:=try exact ac)[]
theorem DO {p:List Int} {a b:List Q} {z:Int} (hp:pcB p=0) (hN:p.length<1000) (ha:a.length=p.length) (hb:b.length=p.length) (oa:okS a) (ob:okS b) (hz:vU p (dfS p a b) z):CP Y F.jY [lst di p,szV a,szV b] (.tup [I z,I 0]):=by
 refine Ce ?_
 have ca:=vg (p:=p) (l:=[a,b]) aa ag (fun s hs=>by
  simp at hs;rcases hs with rfl | rfl
  ·exact ⟨oa,aa⟩
  ·exact ⟨ob,aa⟩)
 rw [if_pos hp,BD (n:=p.length) (l:=[a,b]) fun s hs=>by
  simp at hs;rcases hs with rfl | rfl
  ·exact ha
  ·exact hb] at ca
 have co:=LW hN ha hb oa ob hz;have l1:∀ H,dF 2 [D.pl (Value.slice none 0 0)] [(0,szV a),(1,szV b)] H=some ([szD a,szD b],H):=fun H=>OJ ..
 simp (disch:=try exact ac)[jY,l1];refine cd (v:=I 0) ca ?_ (by simp [ai,aF,norm]);simp (disch:=try exact ac)[];refine cd co ?_ (by simp [ai,szV,bU]);exact ax rfl rfl
def rW (z:Int):Int:=max z (-z)*(2*max z 0-1)
def KC (p:List Int) (s:List Q) (z:Int):List Q:=kI p.length [s] [(rW z,1)]
theorem S6 {p:List Int} {s:List Q} {z:Int} (hp:pcB p=0) (hN:p.length<1000) (hl:s.length=p.length) (hs:okS s) (hz:vU p s z) (h1 : -1<=z) (h2:z<=1):CP Y F.qE [lst di p,szV s] (.tup [szV (KC p s z),I 0]):=by
 refine KZ ?_;have si:=Vb hp aa hl hs hz
 have hk:rW z=z:=by
  rcases (show z = -1∨z=0∨z=1 by omega) with rfl | rfl | rfl <;> rfl
 have hkk:okK 1 [(rW z,1)]:=fun x hx=>by
  simp at hx;subst hx;exact ⟨⟨ag,ag⟩,bf (by rw [hk];omega) ae,bf ag ae⟩
 have su:=B3 (n:=p.length) (l:=[s]) (fs:=[(rW z,1)]) (Ks:=30) (Kk:=1) aa ag rfl ae ag (fun t ht=>by
  simp at ht;subst ht;exact ⟨hl,hs⟩) hkk
 have su':CP Y F.lh [I p.length,lst szD [s],szV [(rW z,1)]] (szV (KC p s z)):=su;have l1:∀ H,dF 1 [D.pl (Value.slice none 0 0)] [(0,szV s)] H=some ([szD s],H):=fun H=>Eo ..
 have l2:∀ H,dF 1 [D.str [],D.str []] [(0,.agg (qT (rW z,1)))] H=some (aV (tx (rW z,1)),H):=fun H=>Rj (rW z,1) H
 have l3:bm (lst di p)=some (I p.length):=rfl;have m1:mxI true [I z,I (-z)]=some (I (max z (-z))):=by simp only [mxI,Ls]
 have m2:mxI true [I z,I 0]=some (I (max z 0)):=by simp only [mxI,Ls]
 have n1:biI .mul (.d (.int .i64 2)) (I (max z 0))=some (I (2*max z 0)):=by rw [mO,wrap_i64 ⟨aa,aa⟩]
 have n2:biI .sub (I (2*max z 0)) (.d (.int .i64 1))=some (I (2*max z 0-1)):=by rw [tR,wrap_i64 ⟨aa,aa⟩]
 have n3:biI .mul (I (max z (-z))) (I (2*max z 0-1))=some (I (rW z)):=by
  rw [mO,wrap_i64 (by rw [show max z (-z)*(2*max z 0-1)=rW z from rfl,hk];omega)];rfl
 have nb:=gM (z:=rW z) (by rw [hk];omega) (by rw [hk];omega)
 have neg:unV .neg (I z)=some (I (-z)):=by
  rcases (show z = -1∨z=0∨z=1 by omega) with rfl | rfl | rfl <;> rfl
 simp (disch:=try exact ac)[qE];refine cd si ?_ (by simp [ai,szV,bU]);clear su;generalize rW z=az at *;generalize max z (-z)=a1 at *;generalize max z 0=a2 at *;generalize 2*a2-1=a4 at *;simp (disch:=try exact ac)[l1,l3,neg,m1,m2,n1,n2,n3];refine cd nb ?_;simp (disch:=try exact ac)[l2]
 refine cd (v:=szV (KC p s z)) su' ?_ (by simp [ai,aF,norm]);exact ax (sC _ _) rfl
theorem Ah {a b:Int} (hb:0<b) (ha1 : -4000000000000000000<=a) (ha2:a<=4000000000000000000) (hb2:b<=4000000000000000000):CP Y F.fe [I a,I b] (I (a / b)):=by
 refine AD ?_;by_cases h:a<0
 ·have n1:unV .neg (I a)=some (I (-a)):=by rw [vp,wrap_i64 ⟨aa,aa⟩]
  have n2:biI .add (I (-a)) (I b)=some (I (-a+b)):=by rw [vR,wrap_i64 ⟨aa,aa⟩]
  have n3:biI .sub (I (-a+b)) (.d (.int .i64 1))=some (I (-a+b-1)):=by rw [tR,wrap_i64 ⟨aa,aa⟩]
  have hq0:0<=(-a+b-1) / b:=Int.ediv_nonneg aa aa;have hq1:(-a+b-1) / b<=-a+b-1:=Int.ediv_le_self _ aa
  have e : -((-a+b-1) / b)=a / b:=by
   have h1:=Int.emod_add_mul_ediv (-a+b-1) b;have h2:=Int.emod_nonneg (-a+b-1) (by omega:b≠0);have h3:=Int.emod_lt_of_pos (-a+b-1) hb;symm;rw [Int.ediv_eq_iff_of_pos hb];generalize (-a+b-1) / b=q at *;generalize (-a+b-1) % b=r at *;have : -q*b = -(b*q):=by rw [Wy,Y4]
   rw [this];omega
  obtain ⟨w,hw⟩:∃ w,w = -a+b-1:=⟨_,rfl⟩;rw [<- hw] at n3 hq0 hq1 e;have td:w.tdiv b=w / b:=Zs aa;obtain ⟨q,hq⟩:∃ q,q=w / b:=⟨_,rfl⟩;rw [<- hq] at hq0 hq1 e td;have n5:unV .neg (I q)=some (I (-q)):=by rw [vp,wrap_i64 ⟨aa,aa⟩]
  have n4:biI .quo (I w) (I b)=some (I q):=by rw [NG aa,td,wrap_i64 ⟨aa,aa⟩]
  simp (disch:=try exact ac)[fe,h,n1,n2,n3,n4,n5];exact bX e
 ·have td:a.tdiv b=a / b:=Zs aa;have hq0:0<=a / b:=Int.ediv_nonneg aa aa;have hq1:a / b<=a:=Int.ediv_le_self _ aa;have n4:biI .quo (I a) (I b)=some (I (a / b)):=by rw [NG aa,td,wrap_i64 ⟨aa,aa⟩]
  simp (disch:=try exact ac)[fe,h,n4] <;> exact bX rfl
def yX (x y:Int × Int) (d g:Int):Option Int:=
 let z:(Int × Int) × (Int × Int):=if y.2<=0 then ((-x.2,-x.1),(-y.2,-y.1)) else (x,y)
 if z.2.1<=0 then none else
  let low:=if z.1.1<0 then z.2.1 else z.2.2
  let high:=if z.1.2<0 then z.2.2 else z.2.1
  if z.1.1*g / (low*d)=z.1.2*g / (high*d) then some (z.1.1*g / (low*d)) else none
def Ei (tx ty:List (Int × Int)) (d g:Nat):Option Int:=match gv 100000 tx (0,0),gv 100000 ty (0,0) with
 | some x,some y=>if 10000<d∨10000<g then none else yX x y d g
 | _,_=>none
theorem Fu {p a:Nat} (hp:2<=p) (hp2:p<128) (h:u7 p=some a):a<469762048:=by
 obtain ⟨hk0,hpk,hk1⟩:=nO (n:=p) aa
 have hk20:bA p<=7:=by
  have:2 ^ (bA p-1)<2 ^ 7:=aa;have:=(Y3 (by decide:1<2)).1 this;omega
 have:=vL _ _ _ _ _ h;have h2:(bA p-1+1)*2 ^ 26<=7*2 ^ 26:=Z3 _ aa;omega
theorem zd {most:Int} (hm0:0<=most):∀ (ts:List (Int × Int)) (lo hi C:Int) (a:Int × Int),(∀ t∈ts,2<=t.1∧t.1<128)->lo<=hi->-C<=lo->hi<=C->gv most ts (lo,hi)=some a ->
  a.1<=a.2∧-(C+ts.length*(most*469762049))<=a.1∧a.2<=C+ts.length*(most*469762049)
 | [],lo,hi,C,a,hl,h1,h2,h3,ha=>by
  simp only [gv,Z9] at ha;subst ha;simp;omega
 | t::ts,lo,hi,C,a,hl,h1,h2,h3,ha=>by
  obtain ⟨l1,l2⟩:=hl t ag;simp only [gv] at ha;split at ha
  ·cases ha
  ·rename_i hc;split at ha
   ·cases ha
   ·rename_i f hf;have hflt:=Fu (p:=t.1.toNat) aa aa hf;obtain ⟨b,hb'⟩:∃ b:Int,b=(if t.1=2 then (f:Int) else f+1):=⟨_,rfl⟩;rw [<- hb'] at ha;have hbb:(f:Int)<=b∧b<=f+1:=by subst hb';split <;> omega
    have bd:∀ z:Int,0<=z->z<=469762049->-(most*469762049)<=t.2*z∧t.2*z<=most*469762049:=by
     intro z hz0 hz;have a1:t.2*z<=most*z:=Zr aa hz0;have a2:(-most)*z<=t.2*z:=Zr aa hz0;have a3:most*z<=most*469762049:=Yx hz hm0;rw [Wy] at a2;omega
    have bx:=bd f aa aa;have by_:=bd b aa aa;have:=zd hm0 ts _ _ (C+most*469762049) a (fun t ht=>hl t (by simp [ht])) aa aa aa ha
    have e:((t::ts).length:Int)*(most*469762049)=most*469762049+ts.length*(most*469762049):=by
     rw [List.length_cons,Int.natCast_add,Yd];omega
    rw [e];omega
def Lj (ts:List (Int × Int)):Prop:=ts.length<=8∧∀ t∈ts,2<=t.1∧t.1<128∧t.2.natAbs<9223372036854775808
theorem WG (r:Option (Int × Int)):neV r=.tup [I (r.getD (0,0)).1,I (r.getD (0,0)).2,B r.isSome]:=by cases r <;> rfl
def Ou (x y:Int × Int) (d g:Int):Int × Bool:=
 let z:(Int × Int) × (Int × Int):=if y.2<=0 then ((-x.2,-x.1),(-y.2,-y.1)) else (x,y)
 if z.2.1<=0 then (0,false) else
  let low:=if z.1.1<0 then z.2.1 else z.2.2
  let high:=if z.1.2<0 then z.2.2 else z.2.1
  (z.1.1*g / (low*d),decide (z.1.1*g / (low*d)=z.1.2*g / (high*d)))
theorem Ld (x y:Int × Int) (d g:Int):yX x y d g=if (Ou x y d g).2=true then some (Ou x y d g).1 else none:=by
 unfold yX Ou;simp only;generalize (if y.2<=0 then ((-x.2,-x.1),(-y.2,-y.1)) else (x,y))=z;by_cases h:z.2.1<=0
 ·simp [h]
 ·simp only [if_neg h,decide_eq_true_eq]
def wH (X1 X2 Y1 Y2 d g:Int):Int × Bool:=if Y1<=0 then (0,false) else
 (X1*g / ((if X1<0 then Y1 else Y2)*d),decide (X1*g / ((if X1<0 then Y1 else Y2)*d)=X2*g / ((if X2<0 then Y2 else Y1)*d)))
theorem QF (x y:Int × Int) (d g:Int):Ou x y d g=if y.2<=0 then wH (-x.2) (-x.1) (-y.2) (-y.1) d g else wH x.1 x.2 y.1 y.2 d g:=by
 unfold Ou;by_cases h:y.2<=0
 ·simp only [if_pos h];rfl
 ·simp only [if_neg h];rfl
theorem TW {X g:Int} (h1 : -400000000000000<=X) (h2:X<=400000000000000) (g0:0<g) (g1:g<=10000) : -4000000000000000000<=X*g∧X*g<=4000000000000000000:=by
 have a1:X*g<=400000000000000*g:=Zr h2 aa;have a2:(-400000000000000)*g<=X*g:=Zr h1 aa;omega
theorem IX {X1 X2 Y1 Y2 d g:Int} (h:Hp) (x1 : -400000000000000<=X1) (x2:X1<=400000000000000) (x3 : -400000000000000<=X2) (x4:X2<=400000000000000) (y0:Y1<=Y2) (y1 : -400000000000000<=Y1) (y2:Y2<=400000000000000)
  (d0:0<d) (d1:d<=10000) (g0:0<g) (g1:g<=10000) (q:V->Hp->Prop) (hq:q (.tup [I (wH X1 X2 Y1 Y2 d g).1,B (wH X1 X2 Y1 Y2 d g).2]) h) :
  bnd (biI .leq (I Y1) (.d (.int .i64 0))) fun v42=>
   cnd v42 (
    q (.tup [(.d (.int .i64 0)),(.d (.bool false))]) h) (
    bnd (biI .lss (I X1) (.d (.int .i64 0))) fun v43=>
    jn (fun l44 h=>
     bnd (biI .lss (I X2) (.d (.int .i64 0))) fun v46=>
     jn (fun l47 h=>
      bnd (biI .mul (I X1) (I g)) fun v49=>
      bnd (biI .mul (ge l44 0) (I d)) fun v50=>
      cal (CX Y).p h (.fn F.fe [] []) [v49,v50] fun v51 h=>
      bnd (biI .mul (I X2) (I g)) fun v52=>
      bnd (biI .mul (ge l47 0) (I d)) fun v53=>
      cal (CX Y).p h (.fn F.fe [] []) [v52,v53] fun v54 h=>
      bnd (biI .eql v51 v54) fun v55=>
      q (.tup [v51,v55]) h) fun q48=>
      cnd v46 (
       q48 [I Y2] h) (
       q48 [I Y1] h)) fun q45=>
     cnd v43 (
      q45 [I Y1] h) (
      q45 [I Y2] h)):=by
 unfold wH at hq;by_cases c:Y1<=0
 ·rw [if_pos c] at hq;simp (disch:=try exact ac)[c];exact hq
 ·rw [if_neg c] at hq;obtain ⟨lo,hlo⟩:∃ z,z=(if X1<0 then Y1 else Y2):=⟨_,rfl⟩;obtain ⟨hi,hhi⟩:∃ z,z=(if X2<0 then Y2 else Y1):=⟨_,rfl⟩;rw [<- hlo,<- hhi] at hq;have l1:0<lo∧lo<=400000000000000:=by subst hlo;split <;> omega
  have l2:0<hi∧hi<=400000000000000:=by subst hhi;split <;> omega
  have p1:=TW x1 x2 g0 g1;have p2:=TW (X:=lo) aa aa d0 d1;have p3:=TW x3 x4 g0 g1;have p4:=TW (X:=hi) aa aa d0 d1;have z1:0<lo*d:=Wx l1.1 d0;have z2:0<hi*d:=Wx l2.1 d0;have w1:=Ah (a:=X1*g) (b:=lo*d) z1 p1.1 p1.2 p2.2;have w2:=Ah (a:=X2*g) (b:=hi*d) z2 p3.1 p3.2 p4.2
  have m1:biI .mul (I X1) (I g)=some (I (X1*g)):=by rw [mO,wrap_i64 ⟨aa,aa⟩]
  have m2:biI .mul (I lo) (I d)=some (I (lo*d)):=by rw [mO,wrap_i64 ⟨aa,aa⟩]
  have m3:biI .mul (I X2) (I g)=some (I (X2*g)):=by rw [mO,wrap_i64 ⟨aa,aa⟩]
  have m4:biI .mul (I hi) (I d)=some (I (hi*d)):=by rw [mO,wrap_i64 ⟨aa,aa⟩]
  generalize X1*g / (lo*d)=r1 at *;generalize X2*g / (hi*d)=r2 at *;generalize X1*g=u1 at *;generalize X2*g=u2 at *;generalize lo*d=v1 at *;generalize hi*d=v2 at *;simp (disch:=try exact ac)[c];refine fY (l:=[I lo]) (h:=h) (fun q=>?_) ?_
  ·by_cases c1:X1<0
   ·rw [decide_eq_true c1,hlo,if_pos c1];rfl
   ·rw [decide_eq_false c1,hlo,if_neg c1];rfl
  ·simp (disch:=try exact ac)[];refine fY (l:=[I hi]) (h:=h) (fun q=>?_) ?_
   ·by_cases c1:X2<0
    ·rw [decide_eq_true c1,hhi,if_pos c1];rfl
    ·rw [decide_eq_false c1,hhi,if_neg c1];rfl
   ·simp (disch:=try exact ac)[m1,m2];refine cd w1 ?_;simp (disch:=try exact ac)[m3,m4];refine cd w2 ?_;simp (disch:=try exact ac)[];exact hq
theorem IW {tx ty:List (Int × Int)} {d g:Nat} (hx:Lj tx) (hy:Lj ty) (hd:d<9223372036854775808) (hg:g<9223372036854775808) (hd0:0<d) (hg0:0<g) :
  ∃ (q:Int) (b:Bool),CP Y F.eu [tmV tx d,tmV ty g] (.tup [I q,B b])∧(b=true->Ei tx ty d g=some q)∧(b=false->Ei tx ty d g=none):=by
 have nx:=BU (d:=d) (most:=100000) ae ae (fun t ht=>⟨(hx.2 t ht).1,by have:=(hx.2 t ht).2.1;omega,(hx.2 t ht).2.2⟩) (by have:=hx.1;omega);have ny:=BU (d:=g) (most:=100000) ae ae (fun t ht=>⟨(hy.2 t ht).1,by have:=(hy.2 t ht).2.1;omega,(hy.2 t ht).2.2⟩) (by have:=hy.1;omega);have sd:=vv (z:=(d:Int)) aa
 have sg:=vv (z:=(g:Int)) aa;rw [c8] at sd sg;rw [WG] at nx ny;have bx:=fun a=>zd (most:=100000) ae tx 0 0 0 a (fun t ht=>⟨(hx.2 t ht).1,(hx.2 t ht).2.1⟩) aa aa aa
 have by_:=fun a=>zd (most:=100000) ae ty 0 0 0 a (fun t ht=>⟨(hy.2 t ht).1,(hy.2 t ht).2.1⟩) aa aa aa
 have lx:=hx.1;have ly:=hy.1;unfold Ei;generalize gv 100000 tx (0,0)=rx at *;generalize gv 100000 ty (0,0)=ry at *;obtain ⟨xl,hxl⟩:∃ z,z=(rx.getD (0,0)).1:=⟨_,rfl⟩;obtain ⟨xh,hxh⟩:∃ z,z=(rx.getD (0,0)).2:=⟨_,rfl⟩;obtain ⟨yl,hyl⟩:∃ z,z=(ry.getD (0,0)).1:=⟨_,rfl⟩;obtain ⟨yh,hyh⟩:∃ z,z=(ry.getD (0,0)).2:=⟨_,rfl⟩;obtain ⟨one,h1⟩:∃ z,z=rx.isSome:=⟨_,rfl⟩
 obtain ⟨two,h2⟩:∃ z,z=ry.isSome:=⟨_,rfl⟩;rw [<- hxl,<- hxh,<- h1] at nx;rw [<- hyl,<- hyh,<- h2] at ny;have nx':CP Y F.cY [.agg [.d (.sl tx.length (tx.map tmP)),.d (.sl tx.length (tx.map tmK)),S (ah d)],I 100000] (.tup [I xl,I xh,B one]):=nx
 have ny':CP Y F.cY [.agg [.d (.sl ty.length (ty.map tmP)),.d (.sl ty.length (ty.map tmK)),S (ah g)],I 100000] (.tup [I yl,I yh,B two]):=ny;have walk:∀ v:V,(eu (CX Y) (tmV tx d) (tmV ty g) (out v))->CP Y F.eu [tmV tx d,tmV ty g] v:=fun v h=>AB h
 have e10:(10000:Int)<(d:Int)↔10000<d:=aa;have e11:(10000:Int)<(g:Int)↔10000<g:=aa;by_cases hc:one=true∧two=true∧¬ (10000:Int)<d∧¬ (10000:Int)<g
 ·obtain ⟨c1,c2,c3,c4⟩:=hc;subst c1;subst c2;obtain ⟨x,rfl⟩:=Xv.1 h1.symm;obtain ⟨y,rfl⟩:=Xv.1 h2.symm;have bx:=bx x rfl;have by_:=by_ y rfl;simp only [Option.getD_some] at hxl hxh hyl hyh;simp only [if_neg (show ¬ (10000<d∨10000<g) by omega)];obtain ⟨r,hr⟩:∃ r,r=Ou x y d g:=⟨_,rfl⟩;refine ⟨r.1,r.2,walk _ ?_,fun h=>?_,fun h=>?_⟩
  ·simp (disch:=try exact ac)[eu,tmV];refine cd nx' ?_ (by simp [ai,aF]);simp (disch:=try exact ac)[];refine cd ny' ?_ (by simp [ai,aF]);simp (disch:=try exact ac)[];refine cd sd ?_ (by simp [ai,aF]);simp (disch:=try exact ac)[];refine cd sg ?_ (by simp [ai,aF])
   simp (disch:=try exact ac)[c3,c4];rw [QF] at hr;by_cases c5:yh<=0
   ·rw [if_pos aa] at hr;have n1:unV .neg (I xh)=some (I (-xh)):=by rw [vp,wrap_i64 ⟨aa,aa⟩]
    have n2:unV .neg (I xl)=some (I (-xl)):=by rw [vp,wrap_i64 ⟨aa,aa⟩]
    have n3:unV .neg (I yh)=some (I (-yh)):=by rw [vp,wrap_i64 ⟨aa,aa⟩]
    have n4:unV .neg (I yl)=some (I (-yl)):=by rw [vp,wrap_i64 ⟨aa,aa⟩]
    have rs:=fun h=>IX (X1:=-xh) (X2:=-xl) (Y1:=-yh) (Y2:=-yl) (d:=d) (g:=g) h aa aa aa aa aa aa aa aa aa aa aa (out (.tup [I r.1,B r.2])) (by
     rw [hr,hxl,hxh,hyl,hyh];exact ax rfl rfl)
    rw [decide_eq_true c5];refine aZ ?_;refine Eq.mpr (Nz _ _) ?_;rw [n1,n2,n3,n4];exact rs _
   ·rw [if_neg aa] at hr
    have rs:=fun h=>IX (X1:=xl) (X2:=xh) (Y1:=yl) (Y2:=yh) (d:=d) (g:=g) h aa aa aa aa aa aa aa aa aa aa aa (out (.tup [I r.1,B r.2])) (by
     rw [hr,hxl,hxh,hyl,hyh];exact ax rfl rfl)
    rw [decide_eq_false c5];refine aZ ?_;refine Eq.mpr (NA _ _) ?_;exact rs _
  ·rw [Ld,<- hr,h];rfl
  ·rw [Ld,<- hr,h];rfl
 ·refine ⟨0,false,walk _ ?_,fun h=>(by cases h),fun _=>?_⟩
  ·simp (disch:=try exact ac)[eu,tmV];refine cd nx' ?_ (by simp [ai,aF]);simp (disch:=try exact ac)[];refine cd ny' ?_ (by simp [ai,aF]);simp (disch:=try exact ac)[];refine cd sd ?_ (by simp [ai,aF]);simp (disch:=try exact ac)[];refine cd sg ?_ (by simp [ai,aF]);cases one with
   | false=>
    simp (disch:=try exact ac)[];exact ax rfl rfl
   | true=>
    cases two with
    | false=>
     simp (disch:=try exact ac)[];exact ax rfl rfl
    | true=>
     by_cases c3:(10000:Int)<d
     ·simp (disch:=try exact ac)[c3];exact ax rfl rfl
     ·by_cases c4:(10000:Int)<g
      ·simp (disch:=try exact ac)[c3,c4];exact ax rfl rfl
      ·exact absurd ⟨rfl,rfl,c3,c4⟩ hc
  ·cases rx with
   | none=>rfl
   | some x=>
    cases ry with
    | none=>rfl
    | some y=>
     have:10000<d∨10000<g:=by
      by_cases c3:(10000:Int)<d
      ·exact .inl aa
      ·by_cases c4:(10000:Int)<g
       ·exact .inr aa
       ·exact absurd ⟨h1,h2,c3,c4⟩ hc
     simp only [if_pos this]
def iB:Q->List Q->List Q->Q
 | k,x::a,y::b=>iB (if y.1=0 then k else AF x y) a b
 | k,_,_=>k
def kt (k:Q):List Q->List Q->Bool
 | x::a,y::b=>decide (mI k y=x) && kt k a b
 | _,_=>true
def raH (x0:Bk) (e0:Nat) (k:Tx):Hp:=[(e0,x0),(1,.vars [S k.1,S k.2]),(0,.none),(0,.none)]
theorem MX {n d:Int} (h:d≠0):okQ (uX n d):=by
 unfold uX;split <;> exact rC _ aa
theorem WL {n d:Int} {K:Nat} (h1:ndg n.natAbs<=K) (h2:ndg d.natAbs<=K):qL K (uX n d):=by
 unfold uX;split
 ·exact CH (by rwa [X8]) h2
 ·exact CH h1 h2
theorem VY {a b:Q} {K L:Nat} (ha:qL K a) (hb:qL L b):qL (K+L) (AF a b):=by
 refine WL ?_ ?_
 ·have:=dO (z:=a.1) (w:=(b.2:Int));rw [Int.natAbs_natCast] at this;have:=ha.1;have:=hb.2;omega
 ·have:=dO (z:=(a.2:Int)) (w:=b.1);rw [Int.natAbs_natCast] at this;have:=ha.2;have:=hb.1;omega
theorem TE {a b:Q} (ha:okQ a) (hb:b.1≠0):okQ (AF a b):=MX (Wt (by have:=ha.1;omega) hb)
theorem QD {a b:List Q} {K:Nat} (hK:K<=40000) (hN:b.length<1000000) (hab:a.length=b.length) (ha:okK K a) (hb:okK K b) (k:KL) (k0:Tx) (e0:Nat) (x0:Bk) (hx0:offB [2] x0=true):∀ (qb pb qa pa:List Q) (c:Q),pb++qb=b->pa++qa=a->pa.length=pb.length->qa.length=qb.length ->
  k (.exit 0) [] (raH x0 e0 (tx (iB c qa qb))) ->
  lp (mF (CX Y) (szV a) (.ptr 1 1 0 2) (szV b) (I b.length)) [2] (raH x0 e0 k0) [I pb.length] (raH x0 e0 (tx c)) k
 | [],pb,qa,pa,c,h1,h2,h3,h4,hk=>by
  simp at h1;subst h1;have:qa=[]:=Zm h4;subst this;refine am ?_;simp (disch:=try exact ac)[mF];exact hk
 | y::qb,pb,[],pa,c,h1,h2,h3,h4,hk=>by simp at h4
 | y::qb,pb,x::qa,pa,c,h1,h2,h3,h4,hk=>by
  have hal:pb.length<b.length:=by subst h1;simp
  have hal2:pb.length<a.length:=aa;obtain ⟨y1,y2⟩:=hb y (by subst h1;simp);obtain ⟨x1,x2⟩:=ha x (by subst h2;simp);have hy:nth ([],[]) (b.map tx) pb.length=tx y:=by subst h1;exact lJ ..
  have hx:nth ([],[]) (a.map tx) pb.length=tx x:=by subst h2;rw [<- h3];exact lJ ..
  have i1:=fun h:Hp=>kT aV aW (b.map tx) h (k:=.i64) (i:=(pb.length:Int)) aa ak
  have i2:=fun h:Hp=>kS aV aW ([],[]) (b.map tx) h (j:=pb.length) (by simpa using hal)
  have j1:=fun h:Hp=>kT aV aW (a.map tx) h (k:=.i64) (i:=(pb.length:Int)) aa ak
  have j2:=fun h:Hp=>kS aV aW ([],[]) (a.map tx) h (j:=pb.length) (by simpa using hal2)
  simp only [hx,hy,Int.toNat_natCast,aV,Zz,Yt] at i1 i2 j1 j2;have g1:(pb.length:Int)<(b.length:Int):=aa;refine am ?_;by_cases hz:y.1=0
  ·have hz2:(!(tx y).1 == [48])=false:=by simp [oR.2 hz,tx]
   have ih:=QD hK hN hab ha hb k k0 e0 x0 hx0 qb (pb++[y]) qa (pa++[x]) c (by simpa using h1) (by simpa using h2) (by simp [h3]) (by simpa using h4) (by simpa [iB,hz] using hk);simp only [raH] at ih;simp (disch:=try exact ac)[mF,szV,i1,i2,g1,raH];refine aZ ?_;simp (disch:=try exact ac)[i1,i2,hz2];refine aZ ?_;refine Eq.mpr (NA _ _) ?_
   simp (disch:=try exact ac)[clean,fF,kZ,oe,od,wi,Jj,eC,xr,xq,nbq,hx0];simpa [szV] using ih
  ·have hz2:(!(tx y).1 == [48])=true:=by
    have:(tx y).1≠[48]:=fun e=>hz (oR.1 e)
    simp [this]
   have dv:=RP x1 y1 hz (x2.mono aa) (y2.mono aa);have dv':CP Y F.j6 [.agg [S (tx x).1,S (tx x).2],.agg [S (tx y).1,S (tx y).2]] (.tup [.agg [S (tx (AF x y)).1,S (tx (AF x y)).2],I 0]):=dv
   have ih:=QD hK hN hab ha hb k k0 e0 x0 hx0 qb (pb++[y]) qa (pa++[x]) (AF x y) (by simpa using h1) (by simpa using h2) (by simp [h3]) (by simpa using h4) (by simpa [iB,hz] using hk);simp only [raH] at ih;simp (disch:=try exact ac)[mF,szV,i1,i2,g1,raH];refine aZ ?_;simp (disch:=try exact ac)[i1,i2,hz2];refine aZ ?_
   refine Eq.mpr (Nz _ _) ?_;simp (disch:=try exact ac)[j1,j2];refine cd dv' ?_ (by simp [ai,aF]);simp (disch:=try exact ac)[clean,fF,kZ,oe,od,wi,Jj,eC,xr,xq,nbq,hx0];simpa [szV] using ih
theorem Bc {K L:Nat}:∀ {a b:List Q} {k:Q},okK K a->okK K b->okQ k->qL L k->K+K<=L->okQ (iB k a b)∧qL L (iB k a b)
 | [],b,k,_,_,h1,h2,_=>⟨h1,h2⟩
 | x::a,[],k,_,_,h1,h2,_=>⟨h1,h2⟩
 | x::a,y::b,k,ha,hb,h1,h2,hL=>by
  simp only [iB];have ha':okK K a:=fun z hz=>ha z (by simp [hz])
  have hb':okK K b:=fun z hz=>hb z (by simp [hz])
  obtain ⟨x1,x2⟩:=ha x ag;obtain ⟨y1,y2⟩:=hb y ag;split
  ·exact Bc ha' hb' h1 h2 hL
  ·rename_i hz;exact Bc ha' hb' (TE x1 hz) ((VY x2 y2).mono hL) hL
theorem Vn {a b:List Q} {K L:Nat} (hK:K<=40000) (hL:L<=90000) (hN:b.length<1000000) (hab:a.length=b.length) (ha:okK K a) (hb:okK K b) {c:Q} (hc:okQ c) (lc:qL L c) (k:KL):∀ (qb pb qa pa:List Q),pb++qb=b->pa++qa=a->pa.length=pb.length->qa.length=qb.length ->
  (kt c qa qb=true->k (.exit 2) [] (raH (.vars [S [],S []]) 1 (tx c)))->(kt c qa qb=false->∀ w,k .ret [B false] [(1,.vars [S (tx c).1,S (tx c).2]),(1,.vars [S (tx c).1,S (tx c).2]),(0,.none),w]) ->
  lp (kC (CX Y) (szV a) (.ptr 0 1 0 2) (.ptr 1 1 0 2) (szV b) (I b.length)) [3] (raH (.vars [S [],S []]) 1 (tx c)) [I pb.length] (raH (.vars [S [],S []]) 1 (tx c)) k
 | [],pb,qa,pa,h1,h2,h3,h4,hk,hr=>by
  simp at h1;subst h1;have:qa=[]:=Zm h4;subst this;refine am ?_;simp (disch:=try exact ac)[kC];exact hk rfl
 | y::qb,pb,[],pa,h1,h2,h3,h4,hk,hr=>by simp at h4
 | y::qb,pb,x::qa,pa,h1,h2,h3,h4,hk,hr=>by
  have hal:pb.length<b.length:=by subst h1;simp
  have hal2:pb.length<a.length:=aa;obtain ⟨y1,y2⟩:=hb y (by subst h1;simp);have hy:nth ([],[]) (b.map tx) pb.length=tx y:=by subst h1;exact lJ ..
  have hx:nth ([],[]) (a.map tx) pb.length=tx x:=by subst h2;rw [<- h3];exact lJ ..
  have i1:=fun h:Hp=>kT aV aW (b.map tx) h (k:=.i64) (i:=(pb.length:Int)) aa ak
  have i2:=fun h:Hp=>kS aV aW ([],[]) (b.map tx) h (j:=pb.length) (by simpa using hal)
  have j1:=fun h:Hp=>kT aV aW (a.map tx) h (k:=.i64) (i:=(pb.length:Int)) aa ak
  have j2:=fun h:Hp=>kS aV aW ([],[]) (a.map tx) h (j:=pb.length) (by simpa using hal2)
  simp only [hx,hy,Int.toNat_natCast,aV,Zz,Yt] at i1 i2 j1 j2;have g1:(pb.length:Int)<(b.length:Int):=aa;have mu:=JP hc y1 (lc.mono aa) (y2.mono aa);have mu':CP Y F.gY [.agg [S (tx c).1,S (tx c).2],.agg [S (tx y).1,S (tx y).2]] (.agg [S (tx (mI c y)).1,S (tx (mI c y)).2]):=mu;have ne:=aan (mI c y) x;refine am ?_
  by_cases hq:mI c y=x
  ·have ih:=Vn hK hL hN hab ha hb hc lc k qb (pb++[y]) qa (pa++[x]) (by simpa using h1) (by simpa using h2) (by simp [h3]) (by simpa using h4) (fun g=>hk (by simp [kt,hq,g])) (fun g=>hr (by simp [kt,hq,g]));rw [decide_eq_true hq] at ne;simp only [raH] at ih;simp (disch:=try exact ac)[kC,szV,i1,i2,g1,raH];refine cd mu' ?_ (by simp [ai,aF])
   simp (disch:=try exact ac)[j1,j2,ne,clean,fF,kZ,oe,od,wi,Jj,eC,xr,xq,nbq];simpa [szV] using ih
  ·rw [decide_eq_false hq] at ne;simp (disch:=try exact ac)[kC,szV,i1,i2,g1,raH];refine cd mu' ?_ (by simp [ai,aF]);simp (disch:=try exact ac)[j1,j2,ne];exact hr (by simp [kt,hq]) _
theorem QB {a b:List Q} {K:Nat} (hK:K<=40000) (hN:b.length<1000000) (hab:a.length=b.length) (ha:okK K a) (hb:okK K b):CP Y F.mT [szV a,szV b] (.tup [.agg (qT (iB (0,1) a b)),B (kt (iB (0,1) a b) a b)]):=by
 refine Gj ?_;have n0:=gM (z:=0) aa aa;have n0':CP Y F.cu [I 0] (.agg [S (tx (0,1)).1,S (tx (0,1)).2]):=n0;have z0:okQ ((0,1):Q):=⟨ae,ae⟩;have zl:qL 90000 ((0,1):Q):=⟨Z1 (bf (d:=1) ae ae) ae,Z1 (bf (d:=1) ae ae) ae⟩
 obtain ⟨c1,c2⟩:=Bc (k:=(0,1)) ha hb z0 zl aa;have lb:=vI b;simp (disch:=try exact ac)[mT];refine cd n0' ?_;simp (disch:=try exact ac)[lb]
 have l0:=QD hK hN hab ha hb (exK [((.exit 0),fun l6 h=>
  bnd (bm (szV b)) fun v7=>
  lp (kC (CX Y) (szV a) (.ptr 0 1 0 2) (.ptr 1 1 0 2) (szV b) v7) [3] h [(.d (.int .i64 0))] h (exK [((.exit 2),fun l8 h=>
   bnd (ldA h 2 (.ptr 1 1 0 2)) fun v9=>
   stD h 2 (.ptr 0 1 0 2) v9 fun _ h=>
   bnd (ldA h 2 (.ptr 0 1 0 2)) fun v11=>
   out (.tup [.agg (qT (iB (0,1) a b)),B (kt (iB (0,1) a b) a b)]) (.tup [v11,(.d (.bool true))]) h),
   (.ret,fun l8 h=>
   bnd (ldA h 2 (.ptr 0 1 0 2)) fun v12=>
   out (.tup [.agg (qT (iB (0,1) a b)),B (kt (iB (0,1) a b) a b)]) (.tup [v12,(ge l8 0)]) h)]))]) (tx (0,1)) 1 (.vars [S [],S []]) rfl b [] a [] (0,1) rfl rfl rfl hab (by
   generalize iB (0,1) a b=c at *;simp (disch:=try exact ac)[lb];refine lo (Vn hK (Z7 _) hN hab ha hb c1 c2 _ b [] a [] rfl rfl rfl hab (fun g=>?_) (fun g w=>?_))
   ·simp (disch:=try exact ac)[raH];rw [g];exact ax (Vj _ c) rfl
   ·simp (disch:=try exact ac)[];rw [g];exact ax (Vj _ c) rfl)
 exact l0
theorem Hd {n:Nat}:∀ (ts:List (Int × Int)) (lo hi:Int) (B:Nat),T6 n ts->(∀ t∈ts,ndg t.2.natAbs<=100000)->101502<=B->ndg lo.natAbs<=B->ndg hi.natAbs<=B ->
  ndg (aM n ts (lo,hi)).1.natAbs<=B+ts.length∧ndg (aM n ts (lo,hi)).2.natAbs<=B+ts.length
 | [],lo,hi,B,hl,hk,hB,h1,h2=>by simpa [aM] using ⟨h1,h2⟩
 | t::ts,lo,hi,B,hl,hk,hB,h1,h2=>by
  obtain ⟨l1,l2,l3,l4⟩:=hl t ag;have hk1:=hk t ag;generalize hv:lg t.1 n=v at *;have hv1:ndg (v+1)<=1501:=rz l4 (Z1 (bf (n:=1) (d:=1) ae ae) ae)
  have hx:ndg ((v:Int)*t.2).natAbs<=101501:=by
   have:=dO (z:=(v:Int)) (w:=t.2);rw [Int.natAbs_natCast] at this;omega
  have hy0:ndg (((v+1:Nat):Int)*t.2).natAbs<=101501:=by
   have:=dO (z:=((v+1:Nat):Int)) (w:=t.2);rw [Int.natAbs_natCast] at this;omega
  obtain ⟨y,hy⟩:∃ y:Int,y=(if t.1=2 then (v:Int) else v+1):=⟨_,rfl⟩
  have hyb:ndg (y*t.2).natAbs<=101501:=by
   subst hy;split
   ·exact hx
   ·exact hy0
  have e:∀ q:Int × Int,ndg q.1.natAbs<=B+1->ndg q.2.natAbs<=B+1->ndg (aM n ts q).1.natAbs<=B+(t::ts).length∧ndg (aM n ts q).2.natAbs<=B+(t::ts).length:=fun q q1 q2=>by
   obtain ⟨qa,qb⟩:=q;have:=Hd (n:=n) ts qa qb (B+1) (fun t ht=>hl t (by simp [ht])) (fun t ht=>hk t (by simp [ht])) aa q1 q2;simp only [List.length_cons];exact ⟨by have:=this.1;omega,by have:=this.2;omega⟩
  simp only [aM,hv,<- hy];split
  ·exact e _ (lK h1 (Z1 hyb aa)) (lK h2 (Z1 hx aa))
  ·exact e _ (lK h1 (Z1 hx aa)) (lK h2 (Z1 hyb aa))
def G6 (tx ty:List (Int × Int)) (d g:Int):Nat->Nat->Option Int
 | 0,_=>none
 | r+1,n=>match yX (aM n tx (0,0)) (aM n ty (0,0)) d g with
  | some q=>some q
  | none=>G6 tx ty d g r (n*2)
theorem VX (x y:Int × Int) (d g:Int):yX x y d g=if (if y.2<=0 then wH (-x.2) (-x.1) (-y.2) (-y.1) d g else wH x.1 x.2 y.1 y.2 d g).2=true then some (if y.2<=0 then wH (-x.2) (-x.1) (-y.2) (-y.1) d g else wH x.1 x.2 y.1 y.2 d g).1 else none:=by
 rw [Ld,QF]
theorem RF (a b:Int):biS .eql (S (itoa a)) (S (itoa b))=some (B (decide (a=b))):=by
 have:(itoa a == itoa b)=decide (a=b):=by
  rw [Y0];simp only [beq_iff_eq,decide_eq_true_eq];exact ⟨fun h=>xT h,fun h=>by rw [h]⟩
 simp only [biS,B6,this]
theorem JR {X1 X2 Y1 Y2:Int} {tx ty:List (Int × Int)} {d g:Nat} {M:Nat} (hM:M<=110000) (x1:ndg X1.natAbs<=M) (x2:ndg X2.natAbs<=M) (y1:ndg Y1.natAbs<=M) (y2:ndg Y2.natAbs<=M) (y0:Y1<=Y2) (d0:0<d) (g0:0<g) (hd:ndg d<=100000) (hg:ndg g<=100000)
  (h:Hp) (hh:h=[(1,.vars [S [],S []]),(1,.vars ((tmD tx d).map .d)),(1,.vars ((tmD ty g).map .d))]∨True) (e1:ld1 h (.ptr 2 1 2 3)=some (S (ah g))) (e2:ld1 h (.ptr 1 1 2 3)=some (S (ah d))) (q2:Hp->Prop) (qr:V->Hp->Prop)
  (h1:(wH X1 X2 Y1 Y2 d g).2=false->q2 h) (h2:(wH X1 X2 Y1 Y2 d g).2=true->qr (S (itoa (wH X1 X2 Y1 Y2 d g).1)) h) :
  cal (CX Y).p h (.fn F.bB [] []) [S (itoa Y1)] fun v16 h=>
   bnd (biI .leq v16 (.d (.int .i64 0))) fun v17=>
   cnd v17 (q2 h) (
    cal (CX Y).p h (.fn F.bB [] []) [S (itoa X1)] fun v18 h=>
    bnd (biI .lss v18 (.d (.int .i64 0))) fun v19=>
    jn (fun l20 h=>
     cal (CX Y).p h (.fn F.bB [] []) [S (itoa X2)] fun v22 h=>
     bnd (biI .lss v22 (.d (.int .i64 0))) fun v23=>
     jn (fun l24 h=>
      bnd (faV 2 (.ptr 2 1 0 3)) fun v26=>
      bnd (ld1 h v26) fun v27=>
      cal (CX Y).p h (.fn F.aI [] []) [S (itoa X1),v27] fun v28 h=>
      bnd (faV 2 (.ptr 1 1 0 3)) fun v29=>
      bnd (ld1 h v29) fun v30=>
      cal (CX Y).p h (.fn F.aI [] []) [(ge l20 0),v30] fun v31 h=>
      cal (CX Y).p h (.fn F.aR [] []) [v28,v31] fun v32 h=>
      ext v32 0 fun v33=>
      ext v32 1 fun v34=>
      ext v32 2 fun v35=>
      bnd (faV 2 (.ptr 2 1 0 3)) fun v36=>
      bnd (ld1 h v36) fun v37=>
      cal (CX Y).p h (.fn F.aI [] []) [S (itoa X2),v37] fun v38 h=>
      bnd (faV 2 (.ptr 1 1 0 3)) fun v39=>
      bnd (ld1 h v39) fun v40=>
      cal (CX Y).p h (.fn F.aI [] []) [(ge l24 0),v40] fun v41 h=>
      cal (CX Y).p h (.fn F.aR [] []) [v38,v41] fun v42 h=>
      ext v42 0 fun v43=>
      ext v42 1 fun v44=>
      ext v42 2 fun v45=>
      bnd (biS .eql v33 v43) fun v46=>
      cnd v46 (qr v33 h) (q2 h)) fun q25=>
      cnd v23 (
       q25 [S (itoa Y2)] h) (
       q25 [S (itoa Y1)] h)) fun q21=>
     cnd v19 (
      q21 [S (itoa Y1)] h) (
      q21 [S (itoa Y2)] h)):=by
 have s1:=kr Y1;have s2:=kr X1;have s3:=kr X2;have p1:=wB Y1;have n2:sgn X1<0↔X1<0:=by unfold sgn;split <;> (try split) <;> omega
 have n3:sgn X2<0↔X2<0:=by unfold sgn;split <;> (try split) <;> omega
 unfold wH at h1 h2;have sn:∀ s:List UInt8,ai h [S s]=some ([S s],h):=fun s=>by simp [ai,aF]
 have sn2:∀ s t:List UInt8,ai h [S s,S t]=some ([S s,S t],h):=fun s t=>by simp [ai,aF]
 by_cases c:Y1<=0
 ·rw [if_pos c] at h1;have c':sgn Y1<=0:=p1.2 c;simp (disch:=try exact ac)[];refine cd s1 ?_ (sn _);simp (disch:=try exact ac)[c'];exact h1 rfl
 ·rw [if_neg c] at h1 h2;have c':¬ sgn Y1<=0:=fun x=>c (p1.1 x)
  obtain ⟨lo,hlo⟩:∃ z,z=(if X1<0 then Y1 else Y2):=⟨_,rfl⟩;obtain ⟨hi,hhi⟩:∃ z,z=(if X2<0 then Y2 else Y1):=⟨_,rfl⟩;rw [<- hlo,<- hhi] at h1 h2;have l1:0<lo∧ndg lo.natAbs<=M:=by subst hlo;split <;> exact ⟨aa,by assumption⟩
  have l2:0<hi∧ndg hi.natAbs<=M:=by subst hhi;split <;> exact ⟨aa,by assumption⟩
  have mg:∀ z:Int,ndg z.natAbs<=M->∀ w:Nat,ndg w<=100000->CP Y F.aI [S (itoa z),S (ah w)] (S (itoa (z*w)))∧ndg (z*w).natAbs<=300000:=fun z hz w hw=>by
   refine ⟨vl aa aa,?_⟩;have:=dO (z:=z) (w:=(w:Int));rw [Int.natAbs_natCast] at this;omega
  obtain ⟨m1,b1⟩:=mg X1 x1 g hg;obtain ⟨m2,b2⟩:=mg lo l1.2 d hd;obtain ⟨m3,b3⟩:=mg X2 x2 g hg;obtain ⟨m4,b4⟩:=mg hi l2.2 d hd;have z1:0<lo*(d:Int):=Wx l1.1 aa;have z2:0<hi*(d:Int):=Wx l2.1 aa;have w1:=H3 (z:=X1*g) (w:=lo*d) z1 aa aa;have w2:=H3 (z:=X2*g) (w:=hi*d) z2 aa aa
  have eq:=RF (X1*g / (lo*d)) (X2*g / (hi*d));generalize X1*(g:Int) / (lo*d)=r1 at *;generalize X2*(g:Int) / (hi*d)=r2 at *;generalize X1*(g:Int) % (lo*d)=r3 at *;generalize X2*(g:Int) % (hi*d)=r4 at *;generalize X1*(g:Int)=u1 at *;generalize X2*(g:Int)=u2 at *;generalize lo*(d:Int)=v1 at *;generalize hi*(d:Int)=v2 at *
  simp (disch:=try exact ac)[];refine cd s1 ?_ (sn _);simp (disch:=try exact ac)[c'];refine cd s2 ?_ (sn _);simp (disch:=try exact ac)[];refine fY (l:=[S (itoa lo)]) (h:=h) (fun q=>?_) ?_
  ·by_cases c1:X1<0
   ·rw [decide_eq_true (n2.2 c1),hlo,if_pos c1];rfl
   ·rw [decide_eq_false (fun x=>c1 (n2.1 x)),hlo,if_neg c1];rfl
  ·simp (disch:=try exact ac)[];refine cd s3 ?_ (sn _);simp (disch:=try exact ac)[];refine fY (l:=[S (itoa hi)]) (h:=h) (fun q=>?_) ?_
   ·by_cases c1:X2<0
    ·rw [decide_eq_true (n3.2 c1),hhi,if_pos c1];rfl
    ·rw [decide_eq_false (fun x=>c1 (n3.1 x)),hhi,if_neg c1];rfl
   ·rw [Vu] at e1 e2;simp (disch:=try exact ac)[e1,e2];refine cd m1 ?_ (sn2 _ _);simp (disch:=try exact ac)[e1,e2];refine cd m2 ?_ (sn2 _ _);simp (disch:=try exact ac)[];refine cd w1 ?_ (sn2 _ _);simp (disch:=try exact ac)[e1,e2];refine cd m3 ?_ (sn2 _ _);simp (disch:=try exact ac)[e1,e2]
    refine cd m4 ?_ (sn2 _ _);simp (disch:=try exact ac)[];refine cd w2 ?_ (sn2 _ _);by_cases he:r1=r2
    ·rw [decide_eq_true he] at eq h2;simp (disch:=try exact ac)[eq];exact h2 rfl
    ·rw [decide_eq_false he] at eq h1;simp (disch:=try exact ac)[eq];exact h1 rfl
theorem RE {k:List V->Hp->Prop} {T:(List V->Hp->Prop)->Prop} (h:T k):jn k T:=h
def flH (k:Tx) (tx ty:List (Int × Int)) (d g:Nat):Hp:=[(1,.vars [S k.1,S k.2]),(1,.vars ((tmD tx d).map .d)),(1,.vars ((tmD ty g).map .d))]
theorem JS {k0:Tx} {tx ty:List (Int × Int)} {d g:Nat} (hx:okT tx) (hy:okT ty) (lx:Ab tx) (ly:Ab ty) (d0:0<d) (g0:0<g) (hd:ndg d<=100000) (hg:ndg g<=100000) (hord:∀ i,i<6->(aM (64*2 ^ i) ty (0,0)).1<=(aM (64*2 ^ i) ty (0,0)).2) (k:KL) (h0:Hp) (hh:h0.length=3):∀ (r i:Nat) (s:Int),i+r=6->G6 tx ty d g r (64*2 ^ i)=some s->(∀ h,k .ret [S (itoa s)] h) ->
  lp (jm (CX Y) (.ptr 1 1 0 3) (.ptr 2 1 0 3)) [] h0 [I ((64*2 ^ i:Nat):Int)] (flH k0 tx ty d g) k
 | 0,i,s,hi,hs,hk=>by simp [G6] at hs
 | r+1,i,s,hi,hs,hk=>by
  have hn:64*2 ^ i<=3900:=by
   have:2 ^ i<=2 ^ 5:=Z2 ae aa;omega
  have ex:=Ha (n:=64*2 ^ i) (d:=d) hn (lx i aa) (xC hx) (by have:=hx.1;omega);have ey:=Ha (n:=64*2 ^ i) (d:=g) hn (ly i aa) (xC hy) (by have:=hy.1;omega);have z1:ndg (0:Int).natAbs<=101502:=Z1 (bf (d:=1) ae ae) ae;have bx:=Hd (n:=64*2 ^ i) tx 0 0 101502 (lx i aa) (xC hx) (Z7 _) z1 z1
  have by_:=Hd (n:=64*2 ^ i) ty 0 0 101502 (ly i aa) (xC hy) (Z7 _) z1 z1;have hor:=hord i aa;have hd2:64*2 ^ i*2=64*2 ^ (i+1):=by rw [Nat.pow_succ,<- Nat.mul_assoc]
  have tl:=hx.1;have tl2:=hy.1;have ex':CP Y F.cZ [.agg [.d (.sl tx.length (tx.map tmP)),.d (.sl tx.length (tx.map tmK)),S (ah d)],I ((64*2 ^ i:Nat):Int)] (.tup [S (itoa (aM (64*2 ^ i) tx (0,0)).1),S (itoa (aM (64*2 ^ i) tx (0,0)).2)]):=ex
  have ey':CP Y F.cZ [.agg [.d (.sl ty.length (ty.map tmP)),.d (.sl ty.length (ty.map tmK)),S (ah g)],I ((64*2 ^ i:Nat):Int)] (.tup [S (itoa (aM (64*2 ^ i) ty (0,0)).1),S (itoa (aM (64*2 ^ i) ty (0,0)).2)]):=ey;simp only [G6,hd2,VX] at hs;generalize aM (64*2 ^ i) tx (0,0)=x at *;generalize aM (64*2 ^ i) ty (0,0)=y at *
  have ih:=JS (k0:=k0) hx hy lx ly d0 g0 hd hg hord k h0 hh r (i+1) s aa;have hm:((64*2 ^ i:Nat):Int)*2=((64*2 ^ (i+1):Nat):Int):=by rw [<- hd2];omega
  have hm2:((64*2 ^ (i+1):Nat):Int)<=8000:=aa;generalize 64*2 ^ (i+1)=m2 at *;generalize 64*2 ^ i=m at *;have s1:=kr y.2;have p1:=wB y.2;obtain ⟨w,hw⟩:∃ w,w=(if y.2<=0 then wH (-x.2) (-x.1) (-y.2) (-y.1) d g else wH x.1 x.2 y.1 y.2 d g):=⟨_,rfl⟩;rw [<- hw] at hs
  have nx:w.2=false->lp (jm (CX Y) (.ptr 1 1 0 3) (.ptr 2 1 0 3)) [] h0 [I (m2:Int)] (flH k0 tx ty d g) k:=fun hf=>by
   rw [hf] at hs;exact ih (by simpa using hs) hk
  have rt:w.2=true->itoa w.1=itoa s:=fun ht=>by
   rw [ht] at hs;simp at hs;rw [hs]
  refine am ?_
  have q2p:w.2=false->bnd (biI .mul (I (m:Int)) (.d (.int .i64 2))) fun v3=>
    clean [] [v3] (flH k0 tx ty d g)=true∧lp (jm (CX Y) (.ptr 1 1 0 3) (.ptr 2 1 0 3)) [] h0 [v3] (aC [] 0 h0 (flH k0 tx ty d g)) k:=fun hf=>by
   have:=nx hf;have e:biI .mul (I (m:Int)) (.d (.int .i64 2))=some (I (m2:Int)):=by rw [mO,hm,wrap_i64 ⟨aa,aa⟩]
   rw [e,qS,bO 0 h0 _ (by rw [hh];rfl)];exact ⟨by simp [flH,tmD,clean,oe,od,eC,wi,fF,kZ],this⟩
  have rtp:∀ h,w.2=true->k .ret [S (itoa w.1)] h:=fun h ht=>by rw [rt ht];exact hk h
  simp (disch:=try exact ac)[jm,flH,tmD];refine aZ ?_;simp (disch:=try exact ac)[];refine cd ex' ?_ (by simp [ai,aF]);simp (disch:=try exact ac)[];refine cd ey' ?_ (by simp [ai,aF]);simp (disch:=try exact ac)[];refine cd s1 ?_ (by simp [ai,aF]);by_cases c:y.2<=0
  ·have c':sgn y.2<=0:=p1.2 c;rw [if_pos c] at hw;have n1:=vF (z:=x.2) aa;have n2:=vF (z:=x.1) aa;have n3:=vF (z:=y.2) aa;have n4:=vF (z:=y.1) aa
   have fr:=JR (X1:=-x.2) (X2:=-x.1) (Y1:=-y.2) (Y2:=-y.1) (tx:=tx) (ty:=ty) (d:=d) (g:=g) (M:=110000) (Z7 _) (by rw [X8];omega) (by rw [X8];omega) (by rw [X8];omega) (by rw [X8];omega) aa d0 g0 hd hg (flH k0 tx ty d g) (.inr trivial) rfl rfl (fun h=>bnd (biI .mul (I (m:Int)) (.d (.int .i64 2))) fun v3=>clean [] [v3] h=true∧lp (jm (CX Y) (.ptr 1 1 0 3) (.ptr 2 1 0 3)) [] h0 [v3] (aC [] 0 h0 h) k) (fun v h=>k .ret [v] h) (fun hf=>q2p (by rw [hw];exact hf)) (fun ht=>by
    rw [<- hw] at ht ⊢;exact rtp _ ht)
   have e13:biI .leq (I (sgn y.2)) (.d (.int .i64 0))=some (B true):=by simp [c']
   rw [e13,qS];refine RE ?_;refine Eq.mpr (Nz _ _) ?_;exact cd (u:=.mk) n1 (cd (u:=.mk) n2 (cd (u:=.mk) n3 (cd (u:=.mk) n4 fr (by simp [ai,aF])) (by simp [ai,aF])) (by simp [ai,aF])) (by simp [ai,aF])
  ·have c':¬ sgn y.2<=0:=fun z=>c (p1.1 z)
   rw [if_neg c] at hw
   have fr:=JR (X1:=x.1) (X2:=x.2) (Y1:=y.1) (Y2:=y.2) (tx:=tx) (ty:=ty) (d:=d) (g:=g) (M:=110000) (Z7 _) aa aa aa aa hor d0 g0 hd hg (flH k0 tx ty d g) (.inr trivial) rfl rfl (fun h=>bnd (biI .mul (I (m:Int)) (.d (.int .i64 2))) fun v3=>clean [] [v3] h=true∧lp (jm (CX Y) (.ptr 1 1 0 3) (.ptr 2 1 0 3)) [] h0 [v3] (aC [] 0 h0 h) k) (fun v h=>k .ret [v] h) (fun hf=>q2p (by rw [hw];exact hf)) (fun ht=>by
    rw [<- hw] at ht ⊢;exact rtp _ ht)
   have e13:biI .leq (I (sgn y.2)) (.d (.int .i64 0))=some (B false):=by simp;omega
   rw [e13,qS];refine RE ?_;refine Eq.mpr (NA _ _) ?_;exact fr
def uZ (p:List Int) (a b:List Q) (q:Int):Prop:=
 (kt (iB (0,1) a b) a b=true∧q=(iB (0,1) a b).1 / ((iB (0,1) a b).2:Int)) ∨
 (kt (iB (0,1) a b) a b=false∧Lj (tq p a)∧Lj (tq p b)∧fN 1 a<9223372036854775808∧fN 1 b<9223372036854775808 ∧
  ((Ei (tq p a) (tq p b) (fN 1 a) (fN 1 b)=some q∧-9223372036854775808<q∧q<9223372036854775808) ∨
   (Ei (tq p a) (tq p b) (fN 1 a) (fN 1 b)=none∧Ab (tq p a)∧Ab (tq p b)∧(∀ i,i<6->(aM (64*2 ^ i) (tq p b) (0,0)).1<=(aM (64*2 ^ i) (tq p b) (0,0)).2)∧G6 (tq p a) (tq p b) (fN 1 a) (fN 1 b) 6 64=some q)))
theorem GL {ts:List (Int × Int)} (h:Lj ts):okT ts:=⟨by have:=h.1;omega,fun t ht=>⟨(h.2 t ht).1,by have:=(h.2 t ht).2.1;omega,(h.2 t ht).2.2⟩⟩
theorem Ft {p:List Int} {a b:List Q} {K:Nat} {q:Int} (hK:K<=1000) (hN:p.length<=20) (ha:a.length=p.length) (hb:b.length=p.length) (oa:okK K a) (ob:okK K b) (hq:uZ p a b q):CP Y F.lu [lst di p,szV a,szV b] (S (itoa q)):=by
 refine Gl ?_;have hKK:K*a.length<=1000*20:=Zq hK aa;have hKK2:K*b.length<=1000*20:=Zq hK aa;have ra:=QB (a:=a) (b:=b) (K:=K) aa aa aa oa ob;have z0:okQ ((0,1):Q):=⟨ae,ae⟩
 have zl:qL 90000 ((0,1):Q):=⟨Z1 (bf (d:=1) ae ae) ae,Z1 (bf (d:=1) ae ae) ae⟩;obtain ⟨c1,c2⟩:=Bc (k:=(0,1)) (L:=90000) oa ob z0 zl aa;have ff:=LJ c1 (c2.mono aa);have ta:=qv (p:=p) (s:=a) (K:=K) aa ha.symm oa aa aa
 have tb:=qv (p:=p) (s:=b) (K:=K) aa hb.symm ob aa aa;have pa:=mK (s:=a) (d:=1) ae (fun x hx=>(oa x hx).1.1);have pb:=mK (s:=b) (d:=1) ae (fun x hx=>(ob x hx).1.1);have ra':CP Y F.mT [szV a,szV b] (.tup [.agg [S (tx (iB (0,1) a b)).1,S (tx (iB (0,1) a b)).2],B (kt (iB (0,1) a b) a b)]):=ra
 have ff':CP Y F.iJ [.agg [S (tx (iB (0,1) a b)).1,S (tx (iB (0,1) a b)).2]] (S (itoa ((iB (0,1) a b).1 / (iB (0,1) a b).2))):=ff;have sn:∀ h:Hp,ai h [szV a,szV b]=some ([szV a,szV b],h):=fun h=>by simp [ai,szV,bU]
 simp (disch:=try exact ac)[lu];refine cd ra' ?_ (sn _);rcases hq with ⟨g,hq⟩ | ⟨g,qa,qb,da,db,hq⟩
 ·rw [g];subst hq;generalize iB (0,1) a b=c at *;simp (disch:=try exact ac)[];refine cd ff' ?_ (by simp [ai,aF]);exact d8 rfl
 ·rw [g];generalize iB (0,1) a b=c at *;obtain ⟨q',b',qo,q1,q2⟩:=IW qa qb da db pa pb;simp (disch:=try exact ac)[];refine cd ta ?_ (by simp [ai,szV,bU]);simp (disch:=try exact ac)[];refine cd tb ?_ (by simp [ai,szV,bU])
  show alV _ _ _ _
  have qo':CP Y F.eu [.agg [.d (.sl (tq p a).length ((tq p a).map tmP)),.d (.sl (tq p a).length ((tq p a).map tmK)),S (ah (fN 1 a))],.agg [.d (.sl (tq p b).length ((tq p b).map tmP)),.d (.sl (tq p b).length ((tq p b).map tmK)),S (ah (fN 1 b))]] (.tup [I q',B b']):=qo;have e1:dI (fN 1 a) p a=tq p a:=rfl;have e2:dI (fN 1 b) p b=tq p b:=rfl;rw [e1,e2]
  have nd:=fun n (h:n<9223372036854775808)=>Z1 (bf (n:=n) (d:=19) aa ae) (by decide:19<=100000)
  have fl:=fun hl1 hl2 ho (hs:G6 (tq p a) (tq p b) (fN 1 a) (fN 1 b) 6 64=some q)=>JS (k0:=tx c) (GL qa) (GL qb) hl1 hl2 pa pb (nd _ da) (nd _ db) ho (exK [(.ret,fun l20 h=>out (S (itoa q)) (ge l20 0) h)]) (flH (tx c) (tq p a) (tq p b) (fN 1 a) (fN 1 b)) rfl 6 0 q rfl hs (fun h=>by
   simp (disch:=try exact ac)[];exact d8 rfl)
  generalize tq p a=ta' at *;generalize tq p b=tb' at *;simp (disch:=try exact ac)[tmV];refine cd qo' ?_ (by simp [ai,aF]);cases b' with
  | true=>
   rcases hq with ⟨h1,h2,h3⟩ | ⟨h1,_⟩
   ·rw [q1 rfl] at h1;simp only [Z9] at h1;subst h1;simp (disch:=try exact ac)[];refine cd (lH h2 h3) ?_;exact d8 rfl
   ·rw [q1 rfl] at h1;cases h1
  | false=>
   rcases hq with ⟨h1,_⟩ | ⟨h1,hl1,hl2,ho,hs⟩
   ·rw [q2 rfl] at h1;cases h1
   ·have:=fl hl1 hl2 ho hs;simp only [flH,tmD,Zz,Yt] at this;simp (disch:=try exact ac)[];exact this
theorem An {p:List Int} {a b:List Q} (hp:pcB p=0) (hN:p.length<=20) (ha:a.length=p.length) (hb:b.length=p.length) (oa:okS a) (ob:okS b) (hne:tq p b≠[]):CP Y F.eN [lst di p,szV a,szV b] (I 0):=by
 refine uI ?_
 have hab:∀ s ∈ [a,b],s.length=p.length∧okS s:=fun s hs=>by
  simp at hs;rcases hs with rfl | rfl
  ·exact ⟨ha,oa⟩
  ·exact ⟨hb,ob⟩
 have ca:=vg (p:=p) (l:=[a,b]) aa ag (fun s hs=>⟨(hab s hs).2,by have:=(hab s hs).1;omega⟩);rw [if_pos hp,BD (n:=p.length) (l:=[a,b]) fun s hs=>(hab s hs).1] at ca;have tb:=qv (p:=p) (s:=b) (K:=30) aa hb.symm ob aa aa;have l1:∀ H,dF 2 [D.pl (Value.slice none 0 0)] [(0,szV a),(1,szV b)] H=some ([szD a,szD b],H):=fun H=>OJ ..
 have e2:dI (fN 1 b) p b=tq p b:=rfl;rw [e2] at tb;generalize tq p b=t at *;have ll:bm (.d (.sl t.length (t.map tmP)))=some (I t.length):=rfl;simp (disch:=try exact ac)[eN,l1];refine cd (v:=I 0) ca ?_ (by simp [ai,aF,norm]);simp (disch:=try exact ac)[];refine cd tb ?_ (by simp [ai,szV,bU])
 simp (disch:=try exact ac)[tmV,fiV,ll,hne]
def xp (p:List Int) (a b:List Q):List Q:=kI p.length [a,b] [(2,1),(1,1)]
def uR (p:List Int) (b:List Q):List Q:=kI p.length [b] [(2,1)]
theorem F9:okK 1 [(2,1),(1,1)]:=fun x hx=>by
 simp at hx;rcases hx with rfl | rfl
 ·exact ⟨⟨ae,ae⟩,bf ae ae,bf ae ae⟩
 ·exact ⟨⟨ae,ae⟩,bf ae ae,bf ae ae⟩
theorem IP {p:List Int} {a b:List Q} {q:Int} (hp:pcB p=0) (hN:p.length<=20) (ha:a.length=p.length) (hb:b.length=p.length) (oa:okS a) (ob:okS b) (hne:tq p b≠[]) (hq:uZ p (xp p a b) (uR p b) q):CP Y F.mU [lst di p,szV a,szV b] (.tup [S (itoa q),I 0]):=by
 refine Gr ?_;have cq:=An hp hN ha hb oa ob hne
 have hab:∀ s ∈ [a,b],s.length=p.length∧okK 30 s:=fun s hs=>by
  simp at hs;rcases hs with rfl | rfl
  ·exact ⟨ha,oa⟩
  ·exact ⟨hb,ob⟩
 have hbb:∀ s ∈ [b],s.length=p.length∧okK 30 s:=fun s hs=>by
  simp at hs;subst hs;exact ⟨hb,ob⟩
 have o2:okK 1 [((2,1):Q)]:=fun x hx=>F9 x (by simp at hx;subst hx;simp)
 have su:=B3 (n:=p.length) (l:=[a,b]) (fs:=[(2,1),(1,1)]) (Ks:=30) (Kk:=1) aa ag rfl ae ag hab F9;have sv:=B3 (n:=p.length) (l:=[b]) (fs:=[(2,1)]) (Ks:=30) (Kk:=1) aa ag rfl ae ag hbb o2;have oA:okK 65 (xp p a b):=A7 (Ks:=30) (Kk:=1) (Ko:=1) (w8 _) (fun s hs=>(hab s hs).2) F9
 have oB:okK 65 (uR p b):=fun x hx=>by
  have:=A7 (Ks:=30) (Kk:=1) (Ko:=1) (w8 p.length) (fun s hs=>(hbb s hs).2) o2 x hx;exact ⟨this.1,this.2.mono ag⟩
 have lA:(xp p a b).length=p.length:=by
  unfold xp kI;rw [qw (fun s hs=>by simpa using (hab s hs).1)];simp
 have lB:(uR p b).length=p.length:=by
  unfold uR kI;rw [qw (fun s hs=>by simpa using (hbb s hs).1)];simp
 have fl:=Ft (p:=p) (K:=65) aa hN lA lB oA oB hq;have l1:∀ H,dF 2 [D.pl (Value.slice none 0 0)] [(0,szV a),(1,szV b)] H=some ([szD a,szD b],H):=fun H=>OJ ..
 have l2:∀ H,dF 2 [D.str [],D.str []] [(0,.agg (qT (2,1))),(1,.agg (qT (1,1)))] H=some (aV (tx (2,1))++aV (tx (1,1)),H):=fun H=>Ri (2,1) (1,1) H
 have l3:bm (lst di p)=some (I p.length):=rfl;have l4:∀ H,dF 1 [D.pl (Value.slice none 0 0)] [(0,szV b)] H=some ([szD b],H):=fun H=>Eo ..
 have l5:∀ H,dF 1 [D.str [],D.str []] [(0,.agg (qT (2,1)))] H=some (aV (tx (2,1)),H):=fun H=>Rj (2,1) H
 have sn:∀ (h:Hp) (x y:List Q),ai h [lst di p,szV x,szV y]=some ([lst di p,szV x,szV y],h):=fun h x y=>by simp [ai,szV,bU]
 simp (disch:=try exact ac)[mU];refine cd cq ?_ (sn _ _ _);simp (disch:=try exact ac)[l1,l3];refine cd (gM (z:=2) aa aa) ?_;simp (disch:=try exact ac)[];refine cd (gM (z:=1) aa aa) ?_;simp (disch:=try exact ac)[l2]
 refine cd (v:=szV (xp p a b)) su ?_ (by simp [ai,aF,norm]);simp (disch:=try exact ac)[l3,l4];refine cd (gM (z:=2) aa aa) ?_;simp (disch:=try exact ac)[l5];refine cd (v:=szV (uR p b)) sv ?_ (by simp [ai,aF,norm]);simp (disch:=try exact ac)[];refine cd fl ?_ (sn _ _ _);exact ax rfl rfl
theorem Pg (a b:List UInt8):bld [(0,1),(1,1)] [.str [],.str []] [(0,S a),(1,S b)]=some (.agg [S a,S b]):=by simp [bld,lS,pD]
def eM (p:List Int) (n:Nat):List Q:=kI p.length [eJ p.length] [(1,n)]
theorem wV (n:Nat):okS (eJ n):=fun x hx=>by
 unfold eJ at hx;simp only [Zt] at hx;rcases hx with rfl | hx
 ·exact zb 1 aa aa
 ·have:=List.eq_of_mem_replicate hx;subst this;exact zb 0 aa aa
theorem Vx {n:Nat} (h0:0<n) (h1:n<=10000):okQ ((1,n):Q)∧qL 30 ((1,n):Q):=
 ⟨⟨h0,ag⟩,Z1 (bf (d:=1) ag ae) ae,Z1 (bf (d:=5) (by show n<10 ^ 5;omega) ae) ae⟩
theorem oT {n:Nat} {l:List (List Q)} {f:List Q} (h:∀ s∈l,s.length=n):(kI n l f).length=n:=by
 unfold kI;rw [qw (fun s hs=>by simpa using h s hs)];simp
theorem J1 {p:List Int} {n:Nat} (hp:pcB p=0) (hN:p.length<=20) (hl:0<p.length) (h0:0<n) (h1:n<=10000) (hr:okS (eM p n)):CP Y F.js [lst di p,I n] (.tup [szV (eM p n),I 0]):=by
 refine AN ?_;have eq:=zr hp aa hl;have of_:=lH (z:=(n:Int)) aa aa;rw [c8] at of_;have le:(eJ p.length).length=p.length:=by simp [eJ];omega
 have sc:=uP (p:=p) (s:=eJ p.length) (k:=(1,n)) hp aa le (wV _) (Vx h0 h1) hr;have e1:itoa 1=[49]:=eQ
 have sc':CP Y F.fk [lst di p,szV (eJ p.length),.agg [S [49],S (ah n)]] (.tup [szV (eM p n),I 0]):=by
  have:qT ((1,n):Q)=[S [49],S (ah n)]:=by simp only [qT,e1]
  rw [<- this];exact sc
 have b:=Pg [49] (ah n);simp (disch:=try exact ac)[js];refine cd eq ?_;simp (disch:=try exact ac)[];refine cd of_ ?_;simp (disch:=try exact ac)[b];refine cd sc' ?_ (by simp [ai,aF,szV,bU]);simp (disch:=try exact ac)[];exact ax (sC _ _) rfl
theorem Ai {p:List Int} {n:Nat} {s:List Q} {q:Int} (hp:pcB p=0) (hN:p.length<=20) (hl:0<p.length) (h0:0<n) (h1:n<=10000) (hr:okS (eM p n)) (ls:s.length=p.length) (os:okS s) (hne:tq p (eM p n)≠[]) (hq:uZ p (xp p s (eM p n)) (uR p (eM p n)) q) :
  CP Y F.fV [lst di p,I n,szV s] (.tup [S (itoa q),I 0]):=by
 refine wW ?_;have st:=J1 hp hN hl h0 h1 hr;have lt:(eM p n).length=p.length:=oT fun s hs=>by simp at hs;subst hs;simp [eJ];omega
 have ro:=IP hp hN ls lt os hr hne hq;simp (disch:=try exact ac)[fV];refine cd st ?_;simp (disch:=try exact ac)[];refine cd ro ?_ (by simp [ai,szV,bU]);simp (disch:=try exact ac)[];exact ax rfl rfl
def nJ (p:List Int) (n:Nat) (q:Int):List Q:=kI p.length [eM p n] [(q,1)]
theorem O3 {p:List Int} {n:Nat} {q:Int} (hp:pcB p=0) (hN:p.length<=20) (hl:0<p.length) (h0:0<n) (h1:n<=10000) (hr:okS (eM p n)) (q1 : -1000000000000000000<q) (q2:q<1000000000000000000) (hr2:okS (nJ p n q)):CP Y F.jL [lst di p,I n,S (itoa q)] (.tup [szV (nJ p n q),I 0]):=by
 refine zy ?_;have st:=J1 hp hN hl h0 h1 hr;have lt:(eM p n).length=p.length:=oT fun s hs=>by simp at hs;subst hs;simp [eJ];omega
 have sc:=uP (p:=p) (s:=eM p n) (k:=(q,1)) hp aa lt hr (zb q q1 q2) hr2
 have sc':CP Y F.fk [lst di p,szV (eM p n),.agg [S (itoa q),S [49]]] (.tup [szV (nJ p n q),I 0]):=by
  have:qT ((q,1):Q)=[S (itoa q),S [49]]:=by simp only [qT,eQ]
  rw [<- this];exact sc
 have b:=Pg (itoa q) [49];simp (disch:=try exact ac)[jL];refine cd st ?_;simp (disch:=try exact ac)[b];refine cd sc' ?_ (by simp [ai,aF,szV,bU]);simp (disch:=try exact ac)[];exact ax (sC _ _) rfl
def iG (p:List Int) (n:Nat) (q:Int) (s:List Q):List Q:=kI p.length [nJ p n q,s] [(1,1),(-1,1)]
theorem vt {p:List Int} {n:Nat} (hl:0<p.length):(eM p n).length=p.length:=oT fun s hs=>by simp at hs;subst hs;simp [eJ];omega
theorem wu {p:List Int} {n:Nat} {q:Int} (hl:0<p.length):(nJ p n q).length=p.length:=oT fun s hs=>by simp at hs;subst hs;exact vt hl
theorem Nu {p:List Int} {n:Nat} {q:Int} {s:List Q} (hp:pcB p=0) (hN:p.length<=20) (hl:0<p.length) (h0:0<n) (h1:n<=10000) (hr:okS (eM p n)) (q1 : -1000000000000000000<q) (q2:q<1000000000000000000) (hr2:okS (nJ p n q)) (ls:s.length=p.length) (os:okS s) (hr3:okS (iG p n q s)) :
  CP Y F.j7 [lst di p,I n,S (itoa q),szV s] (.tup [szV (iG p n q s),I 0]):=by
 refine Di ?_;have ti:=O3 hp hN hl h0 h1 hr q1 q2 hr2;have sb:=PI (p:=p) (s:=nJ p n q) (t:=s) hp aa (wu hl) hr2 ls os hr3;simp (disch:=try exact ac)[j7];refine cd ti ?_ (by simp [ai,aF]);simp (disch:=try exact ac)[];refine cd sb ?_ (by simp [ai,szV,bU]);simp (disch:=try exact ac)[]
 exact ax (sC _ _) rfl
structure wd (p:List Int) (n:Nat) (r:List Int) (q:Int):Prop where
 hp:pcB p=0
 hN:p.length<=20
 hl:0<p.length
 h0:0<n
 h1:n<=10000
 lr:r.length=p.length
 sr:smR r=true
 st:okS (eM p n)
 of:okS (ofQ r)
 ne:tq p (eM p n)≠[]
 fl:uZ p (xp p (ofQ r) (eM p n)) (uR p (eM p n)) q
 q1 : -1000000000000000000<q
 q2:q<1000000000000000000
 ti:okS (nJ p n q)
 er:okS (iG p n q (ofQ r))
theorem FB {p r:List Int} {n:Nat} {q:Int} (E:wd p n r q):CP Y F.fW [lst di p,I n,lst di r] (.tup [szV (iG p n q (ofQ r)),I 0]):=by
 refine wX ?_;have of_:=Ci E.hp (by have:=E.hN;omega) E.lr E.sr;have lo:(ofQ r).length=p.length:=by simp [ofQ,E.lr]
 have ne:=Ai E.hp E.hN E.hl E.h0 E.h1 E.st lo E.of E.ne E.fl;have off:=Nu E.hp E.hN E.hl E.h0 E.h1 E.st E.q1 E.q2 E.ti lo E.of E.er;simp (disch:=try exact ac)[fW];refine cd of_ ?_;simp (disch:=try exact ac)[];refine cd ne ?_ (by simp [ai,szV,bU]);simp (disch:=try exact ac)[]
 refine cd off ?_ (by simp [ai,szV,bU]);simp (disch:=try exact ac)[];exact ax (sC _ _) rfl
def nB (p:List Int) (n:Nat) (r:List Int) (q z:Int):List Q:=KC p (iG p n q (ofQ r)) z
theorem qk {p:List Int} {n:Nat} {q:Int} {s:List Q} (hl:0<p.length) (hs:s.length=p.length):(iG p n q s).length=p.length:=oT fun t ht=>by
 simp at ht;rcases ht with rfl | rfl
 ·exact wu hl
 ·exact hs
theorem Ke {p r:List Int} {n:Nat} {q z:Int} (E:wd p n r q) (hz:vU p (iG p n q (ofQ r)) z) (z1 : -1<=z) (z2:z<=1):CP Y F.ir [lst di p,I n,lst di r] (.tup [szV (nB p n r q z),I 0]):=by
 refine AP ?_;have er:=FB E;have lo:(ofQ r).length=p.length:=by simp [ofQ,E.lr]
 have ab:=S6 E.hp (by have:=E.hN;omega) (qk (n:=n) (q:=q) E.hl lo) E.er hz z1 z2;simp (disch:=try exact ac)[ir];refine cd er ?_;simp (disch:=try exact ac)[];refine cd ab ?_ (by simp [ai,szV,bU]);simp (disch:=try exact ac)[];exact ax (sC _ _) rfl
theorem Kb {p:List Int} {a b:List Q} {z:Int} (hp:pcB p=0) (hN:p.length<1000) (ha:a.length=p.length) (hb:b.length=p.length) (oa:okS a) (ob:okS b) (hz:vU p (dfS p a b) z):CP Y F.jt [lst di p,szV a,szV b] (B (decide (z<0))):=by
 refine AO ?_;have co:=DO hp hN ha hb oa ob hz;simp (disch:=try exact ac)[jt];refine cd co ?_ (by simp [ai,szV,bU]);simp (disch:=try exact ac)[] <;> exact ip rfl
def dvC (p:List Int) (n:Int):Int:=if pcB p=0 then (if n<1∨10000<n then 3 else 0) else pcB p
theorem zH {p:List Int} {n:Int} (hN:p.length<1000000):CP Y F.gB [lst di p,I n] (I (dvC p n)):=by
 refine zz ?_;unfold dvC;simp (disch:=try exact ac)[gB];refine cd (dR aa) ?_;by_cases h:pcB p=0
 ·rw [if_pos h];by_cases c1:n<1
  ·rw [if_pos (.inl c1)];simp (disch:=try exact ac)[h,c1] <;> exact bX rfl
  ·by_cases c2:10000<n
   ·rw [if_pos (.inr c2)];simp (disch:=try exact ac)[h,c1,c2] <;> exact bX rfl
   ·rw [if_neg aa];simp (disch:=try exact ac)[h,c1,c2] <;> exact bX rfl
 ·rw [if_neg h];simp (disch:=try exact ac)[h] <;> exact bX rfl
structure Vd (p r:List Int) (lim:Nat) (qf zf:Nat->Int) (ls:Nat->Nat->Bool):Prop where
 er:∀ n,1<=n->n<=lim->wd p n r (qf n)
 sg:∀ n,1<=n->n<=lim->vU p (iG p n (qf n) (ofQ r)) (zf n)∧-1<=zf n∧zf n<=1
 ok:∀ n,1<=n->n<=lim->okS (nB p n r (qf n) (zf n))
 cm:∀ n m,1<=m->m<n->n<=lim->∃ z,vU p (dfS p (nB p n r (qf n) (zf n)) (nB p m r (qf m) (zf m))) z∧decide (z<0)=ls n m
def mH (ls:Nat->Nat->Bool):Nat->Nat->Nat->List Int
 | 0,_,_=>[]
 | f+1,n,m=>if m=0∨ls n m=true then (n:Int)::mH ls f (n+1) n else mH ls f (n+1) m
def acR:Acc:=⟨0,0,1,.none⟩
theorem zK {p r:List Int} {n:Nat} {q z:Int} (hl:0<p.length) (hr:r.length=p.length):(nB p n r q z).length=p.length:=oT fun t ht=>by
 simp at ht;subst ht;exact qk hl (by simp [ofQ,hr])
theorem xv {p r:List Int} {lim:Nat} {qf zf:Nat->Int} {ls:Nat->Nat->Bool} (R:Vd p r lim qf zf ls) (hlim:lim<=500) (k:KL) (h0:Hp) (hh:h0.length=1):∀ (f n m:Nat) (out0:List Int) (best:V),n+f=lim+1->1<=n->out0.length<n->m<n->(m=0->n=1)->(m≠0->best=szV (nB p m r (qf m) (zf m)))->(m=0->best=mJ) ->
  (k (.exit 0) [acR.v (out0++mH ls f n m).length ((out0++mH ls f n m).map di)] [acR.b (out0++mH ls f n m).length ((out0++mH ls f n m).map di)]) ->
  lp (jC (CX Y) (lst di p) (lst di r) (I lim)) [] h0 [acR.v out0.length (out0.map di),best,I n] [acR.b out0.length (out0.map di)] k
 | 0,n,m,out0,best,hf,hn,ho,hm,hm0,hb,hb0,hk=>by
  have g:¬ (n:Int)<=(lim:Int):=aa;refine am ?_;simp (disch:=try exact ac)[jC,g];simpa [mH] using hk
 | f+1,n,m,out0,best,hf,hn,ho,hm,hm0,hb,hb0,hk=>by
  have g:(n:Int)<=(lim:Int):=aa;obtain ⟨s1,s2,s3⟩:=R.sg n hn aa;have E:=R.er n hn aa;have aw:=Ke E s1 s2 s3;refine am ?_;simp (disch:=try exact ac)[jC,g];refine aZ ?_;simp (disch:=try exact ac)[];refine cd aw ?_ (by simp [ai,aF])
  have li1:∀ (z:Int) (H:Hp),dF 1 [D.int IntKind.i64 0] [(0,I z)] H=some ([di z],H):=fun z H=>by simp [dF,gC,jy,toD,di]
  have cR:(out0.map di).length=out0.length*acR.n:=by simp [acR]
  by_cases h1:n=1
  ·subst h1;have hm1:m=0:=aa;subst hm1;have ih:=xv R hlim k h0 hh f 2 1 (out0++[1]) (szV (nB p 1 r (qf 1) (zf 1))) aa aa ak aa aa (fun _=>rfl) aa (by simpa [mH] using hk);simp (disch:=try exact ac)[];refine aZ ?_;simp (disch:=try exact ac)[li1]
   refine kY acR (k:=1) aa rfl cR (by rfl) rfl (fun t e=>by cases e) aa ae ?_;have cw:∀ x y:Nat × Bk,([x]:Hp).set acR.s y=[y]:=fun x y=>rfl
   have hre:∀ x:Hp,x.length=1->aC [] 0 h0 x=x:=fun x hx=>bO 0 h0 x aa
   have ov:=vi acR [] (out0.length+1) (out0.map di++[di 1]) rfl;have ob:=vj acR [] (out0.length+1) (out0.map di++[di 1]) rfl;simp (disch:=try exact ac)[cw,hre,clean,fF,oe,od,eC,ov,ob,kZ,szV,bU];refine ⟨rfl,?_⟩;have ev:∀ c,acR.v (out0.length+1) c=.ref acR.s (acR.e+1) 0 (out0.length+1) (out0.length+1) c.length:=fun c=>rfl
   have eb:∀ c,acR.b (out0.length+1) c=(acR.e+1,.data acR.n c false false):=fun c=>rfl
   simpa [szV,bU,ev,eb] using ih
  ·have hm1:m≠0:=fun e=>h1 (hm0 e)
   obtain ⟨z,cz,hz⟩:=R.cm n m aa hm aa;obtain rfl:=hb hm1;have lA:=zK (n:=n) (q:=qf n) (z:=zf n) E.hl E.lr;have lB:=zK (n:=m) (q:=qf m) (z:=zf m) E.hl E.lr;have le:=Kb E.hp (by have:=E.hN;omega) lA lB (R.ok n hn aa) (R.ok m aa aa) cz;rw [hz] at le;have h1':¬ (n:Int)=1:=aa
   have sn:∀ (h:Hp) (x y:List Q),ai h [lst di p,szV x,szV y]=some ([lst di p,szV x,szV y],h):=fun h x y=>by simp [ai,szV,bU]
   have hre:∀ x:Hp,x.length=1->aC [] 0 h0 x=x:=fun x hx=>bO 0 h0 x aa
   simp (disch:=try exact ac)[h1'];refine cd le ?_ (sn _ _ _);cases hl:ls n m with
   | true=>
    have ih:=xv R hlim k h0 hh f (n+1) n (out0++[(n:Int)]) (szV (nB p n r (qf n) (zf n))) aa aa ak aa aa (fun _=>rfl) aa (by simpa [mH,hm1,hl] using hk);simp (disch:=try exact ac)[];refine aZ ?_;simp (disch:=try exact ac)[li1]
    refine kY acR (k:=1) aa rfl cR (by rfl) rfl (fun t e=>by cases e) aa ae ?_;have cw:∀ x y:Nat × Bk,([x]:Hp).set acR.s y=[y]:=fun x y=>rfl
    simp (disch:=try exact ac)[cw,hre,clean,fF,oe,od,eC,kZ,szV,bU];refine ⟨rfl,?_⟩;have ev:∀ c,acR.v (out0.length+1) c=.ref acR.s (acR.e+1) 0 (out0.length+1) (out0.length+1) c.length:=fun c=>rfl
    have eb:∀ c,acR.b (out0.length+1) c=(acR.e+1,.data acR.n c false false):=fun c=>rfl
    simpa [szV,bU,ev,eb] using ih
   | false=>
    have ih:=xv R hlim k h0 hh f (n+1) m out0 (szV (nB p m r (qf m) (zf m))) aa aa aa aa aa (fun _=>rfl) aa (by simpa [mH,hm1,hl] using hk);have ov:=vi acR [] out0.length (out0.map di) rfl;have ob:=vj acR [] out0.length (out0.map di) rfl;simp (disch:=try exact ac)[];refine aZ ?_
    simp (disch:=try exact ac)[hre,clean,fF,oe,od,eC,ov,ob,kZ,szV,bU];simpa [szV,bU] using ih
theorem Lb {p r:List Int} {lim:Nat} {qf zf:Nat->Int} {ls:Nat->Nat->Bool} (R:Vd p r lim qf zf ls) (hlim:lim<=500) (hl1:1<=lim):CP Y F.fX [lst di p,lst di r,I lim] (.tup [lst di (mH ls lim 1 0),I 0]):=by
 refine wY ?_;have E:=R.er 1 (Z7 _) hl1;have pc:=dR (p:=p) (by have:=E.hN;omega);rw [E.hp] at pc;have mc:=xI (p:=p) (r:=r) (by have:=E.hN;omega);rw [wR E.hp E.lr E.sr] at mc;have g1:¬ (lim:Int)<1:=aa;have g2:¬ (500:Int)<(lim:Int):=aa
 have rl:=xv R hlim (exK [((.exit 0),fun l9 h=>out (.tup [lst di (mH ls lim 1 0),I 0]) (.tup [(ge l9 0),(.d (.int .i64 0))]) h),(.ret,fun l9 h=>out (.tup [lst di (mH ls lim 1 0),I 0]) (.tup [(ge l9 0),(ge l9 1)]) h)]) [(0,.none)] rfl lim 1 0 [] mJ aa aa ag aa aa aa (fun _=>rfl) (by
  simp only [List.nil_append];generalize mH ls lim 1 0=w;simp (disch:=try exact ac)[];obtain ⟨h',q1,_⟩:=jP acR (L:=w.length) (cells:=w.map di) (h:=[acR.b w.length (w.map di)]) rfl (by simp [acR]);exact ax q1 rfl)
 simp (disch:=try exact ac)[fX];refine cd pc ?_;simp (disch:=try exact ac)[];refine cd mc ?_;simp (disch:=try exact ac)[g1,g2];exact rl
end Go.Vm
