/- Lemmas. -/
import Derived.Test.YtgcaaigeilmbaaaGreatDoorQRefRow
set_option linter.unusedVariables false
set_option linter.unusedSimpArgs false
namespace Go.Vm
open Go Go.Am Go.Big
variable{z C:Int}{x:Int->Int}{ts:List (Int×Int)}{k n i j f most:Nat}{p r t y r' to fr:LiQ}{s bd:List Q}{m R0 R:LLQ}{ch:List LLQ}{w q:Q}
def afQ:LLQ:=[[2,3,5],[2,3],[2,3,5,7],[2,3,7],[3,5,7],[2],[2,5,7],[2,3,11],[2,3,5,13],[2,3,7,11]]
abbrev Rw:=LiQ
structure AC(p:LiQ)(n:Nat)(l:List Rw)(qf:Rw->Int):Prop where
 hN:l.length<=60
 hE:∀r∈l,xt p n r (qf r)
def p13(k:Nat):LiQ:=afQ.getD (k%10) []
theorem aco{d:Int}(hd:d≠0)(h1 : -9223372036854775808<z)(h2:z<9223372036854775808)(h3 : -9223372036854775808<d)(h4:d<9223372036854775808):CP Y F.Cz [I z,I d] (.agg (qT (zt z d))):=by refine Lb ?_;have fo:CP Y F.En [I z,I d] (.tup [.agg [S (itoa (zt z d).1),S (AI (zt z d).2)],I 0]):=Tv hd h1 h2 h3 h4;simp[Cz];refine cd fo ?_;simp;exact EI rfl rfl
def UU:LiQ:=[1,2,3,4,6,12]
def Jh(b:Nat):Int:=UU.getD (b%6) 1
theorem TM(b:Nat):Jh b=1∨Jh b=2∨Jh b=3∨Jh b=4∨Jh b=6∨Jh b=12:=by unfold Jh;have h:b%6<6:=Yt _ AF;generalize b%6=j at *;have:j=0∨j=1∨j=2∨j=3∨j=4∨j=5:=aa;rcases this with rfl|rfl|rfl|rfl|rfl|rfl<;>simp[UU]
def frq(a:Int)(b:Nat):Q:=zt (a.tmod 41) (Jh b)
theorem PX{a:Int}{b:Nat}(ha : -128<=a∧a<=127)(hb:b<256):CP Y F.Ch [.agg [.d (.int .i8 a),.d (.int .u8 b)]] (.agg (qT (frq a b))):=by
 refine Ja ?_;have r1 : -41<a.tmod 41:=Int.lt_tmod_of_pos a AF;have r2:=Xa a (b:=41) AF;have hd:=TM b;have pt:CP Y F.Cz [I (a.tmod 41),I (Jh b)] (.agg [S (itoa (frq a b).1),S (AI (frq a b).2)]):=aco (z:=a.tmod 41) (d:=Jh b) aa aa aa aa aa
 have hkk:b%6<6:=Yt _ AF;have i1:=fun H:Hp=>uA di UU H (k:=.u8) (i:=((b%6:Nat):Int)) aa (by show((b%6:Nat):Int)<6;omega)
 have i2:=fun H:Hp=>jO di 1 UU H (j:=b%6) hkk
 have hn:nth 1 UU (b%6)=Jh b:=rfl
 have m1:biI .rem (.d (.int .u8 (b:Int))) (.d (.int .u8 6))=some (.d (.int .u8 ((b%6:Nat):Int))):=by
  rw[yl aa,Y3 aa];congr 3
 rw[hn]at i2;simp only[Int.toNat_natCast]at i1;obtain⟨c,hc⟩:=nmQ (UU.map di)
 have i1':∀H:Hp,ixV H 1 (.d (.sl 6 c)) (.d (.int .u8 ((b%6:Nat):Int)))=some (.dptr c (b%6)):=fun H=>by
  have:=i1 H;rw[<-hc]at this;rw[<-this,hc];rfl
 have i2':∀H:Hp,ld1 H (.dptr c (b%6))=some (I (Jh b)):=fun H=>by rw[hc];exact i2 H
 have hl6:∀H:Hp,BS 6 [D.int IntKind.i64 0] [(0,V.d (D.int IntKind.i64 1)),(1,V.d (D.int IntKind.i64 2)),(2,V.d (D.int IntKind.i64 3)),(3,V.d (D.int IntKind.i64 4)),(4,V.d (D.int IntKind.i64 6)),(5,V.d (D.int IntKind.i64 12))] H=some (c,H):=fun H=>by
  rw[hc];simp[BS,cY,eA,toD,di,UU]
 have hm:((b:Int).tmod 6)=(b:Int)%6:=Y3 aa;have i1'':∀H:Hp,ixV H 1 (.d (.sl 6 c)) (.d (.int .u8 ((b:Int)%6)))=some (.dptr c (b%6)):=i1';simp(disch:=try exact zN)[Ch,hl6,hm,i1'',i2'];refine cd pt ?_;simp;exact EI rfl rfl
def upI(x:Int->Int)(p:Int):Int:=if p=2 then x p else x p+1
def Fz(x:Int->Int):List (Int×Int)->Int×Int->Int×Int
 |[],a=>a
 |t::ts,a=>Fz x ts (if t.2<0 then(a.1+upI x t.1*t.2,a.2+x t.1*t.2)else(a.1+x t.1*t.2,a.2+upI x t.1*t.2))
theorem RI(n:Nat):∀(ts:List (Int×Int))(a:Int×Int),iw n ts a=Fz (lgI n) ts a
 |[],a=>rfl
 | t::ts,a=>by
  simp only[iw,Fz,upI,lgI];exact RI n ts _
def fxI(p:Int):Int:=((xc p.toNat).getD 0:Nat)
theorem Pj{most:Int}:∀(ts:List (Int×Int))(a r:Int×Int),jJ most ts a=some r->r=Fz fxI ts a
 | [],a,r,h=>by
  simp only[jJ,Z9]at h;exact h.symm
 | t::ts,a,r,h=>by
  simp only[jJ]at h;split at h
  .cases h
  .split at h
   .cases h
   .rename_i f hf;have hx:fxI t.1=(f:Int):=by unfold fxI;rw[hf];rfl
    have ih:=Pj ts _ r h;rw[ih,Fz];congr 1;unfold upI;rw[hx];obtain⟨b,hb⟩:∃b:Int,b=if t.1=2 then(f:Int)else f+1:=⟨_,rfl⟩
    rw[<-hb];have hfb:(f:Int)<=b:=by rw[hb];split<;>omega
    by_cases hn:t.2<0
    .rw[if_pos hn];have:t.2*b<=t.2*f:=Int.mul_le_mul_of_nonpos_left aa hfb;rw[Int.min_eq_right this,Int.max_eq_left this,Xs b,Xs (f:Int)]
    .rw[if_neg hn];have:t.2*f<=t.2*b:=Int.mul_le_mul_of_nonneg_left hfb aa;rw[Int.min_eq_left this,Int.max_eq_right this,Xs b,Xs (f:Int)]
theorem KY{x:Int->Int}:∀(ts:List (Int×Int))(a:Int×Int),Fz x ts a=(a.1+(Fz x ts (0,0)).1,a.2+(Fz x ts (0,0)).2)
 |[],a=>by simp[Fz]
 | t::ts,a=>by
  simp only[Fz];split
  .rw[KY ts,KY ts (0+_,0+_)];simp only[Xt,Wp]
  .rw[KY ts,KY ts (0+_,0+_)];simp only[Xt,Wp]
theorem Pi{x x':Int->Int}{K:Int}(hK:0<=K):∀ts:List (Int×Int),(∀t∈ts,x t.1*K<=x' t.1∧upI x' t.1<=upI x t.1*K)->(Fz x ts (0,0)).1*K<=(Fz x' ts (0,0)).1∧(Fz x' ts (0,0)).2<=(Fz x ts (0,0)).2*K
 |[],_=>by simp[Fz]
 | t::ts,h=>by
  obtain⟨h1,h2⟩:=h t mR;obtain⟨i1,i2⟩:=Pi hK ts fun u hu=>h u (by simp[hu])
  simp only[Fz];rw[KY ts,KY (x:=x') ts];by_cases hn:t.2<0
  .rw[if_pos hn,if_pos hn];simp only[Xt,Xb];have m1:=Int.mul_le_mul_of_nonpos_right h2 (by omega:t.2<=0);have m2:=Int.mul_le_mul_of_nonpos_right h1 (by omega:t.2<=0);rw[Yn]at m1 m2;constructor<;>omega
  .rw[if_neg hn,if_neg hn];simp only[Xt,Xb];have m1:=X0 h1 (by omega:0<=t.2);have m2:=X0 h2 (by omega:0<=t.2);rw[Yn]at m1 m2;constructor<;>omega
def Rr(x:Int->Int)(K:Nat)(p:Int):Bool:=decide (x p*K<=lgI 2048 p)&&decide (upI (lgI 2048) p<=upI x p*K)
theorem Nl:∀p∈c6P,Rr fxI (2^2022) p=true∧Rr (lgI 64) (2^1984) p=true∧Rr (lgI 128) (2^1920) p=true∧Rr (lgI 256) (2^1792) p=true∧Rr (lgI 512) (2^1536) p=true∧Rr (lgI 1024) (2^1024) p=true:=dQ
theorem aay{K:Nat}(h:∀t∈ts,Rr x K t.1=true):(Fz x ts (0,0)).1*K<=(Fz (lgI 2048) ts (0,0)).1∧(Fz (lgI 2048) ts (0,0)).2<=(Fz x ts (0,0)).2*K:=by
 refine Pi aa ts fun t ht=>?_
 have:=h t ht;simp only[Rr,Z7,decide_eq_true_eq]at this;exact this
theorem Ng{K:Nat}(h:∀t∈ts,Rr x K t.1=true)(hT:HE (lgI 2048) ts≠0):
  (0<=(Fz x ts (0,0)).1->(HE (lgI 2048) ts).sign=1)∧((Fz x ts (0,0)).2<=0->(HE (lgI 2048) ts).sign = -1):=by
 obtain⟨n1,n2⟩:=aay h;obtain⟨g1,g2,_⟩:=Ms 2048 ts;rw[RI]at g1 g2;refine⟨fun h0=>?_,fun h0=>?_⟩
 .have:=Int.mul_nonneg h0 (by omega:(0:Int)<=K);exact W8 aa
 .have:=Int.mul_nonneg (a:=-(Fz x ts (0,0)).2) (b:=(K:Int)) aa aa;rw[Int.neg_mul]at this;exact Int.sign_eq_neg_one_of_neg aa
theorem abh(hT:HE (lgI 2048) ts≠0):
  (0<=(iw 2048 ts (0,0)).1->(HE (lgI 2048) ts).sign=1)∧((iw 2048 ts (0,0)).2<=0->(HE (lgI 2048) ts).sign = -1):=by obtain⟨g1,g2,_⟩:=Ms 2048 ts;exact⟨fun h0=>W8 aa,fun h0=>Int.sign_eq_neg_one_of_neg aa⟩
theorem ab7(hm:∀t∈ts,t.1∈c6P)(hn:(ts.map Prod.fst).Nodup)(h0:∀t∈ts,t.2≠0)(hl:ts.length<=6)(hb:∀t∈ts,t.2.natAbs<9223372036854775808):SS ts=some (HE (lgI 2048) ts).sign:=by
 cases ts with
 |nil=>rfl
 | cons t l=>
  obtain⟨ts,hts⟩:∃ts,ts=t::l:=⟨_,rfl⟩;have hne:ts≠[]:=by rw[hts];simp
  rw[<-hts]at hm hn h0 hl hb ⊢;have h1:=Vn (C:=9223372036854775808) ts fun t ht=>Nat.le_of_lt (hb t ht)
  have h2:ts.length*9223372036854775808<=6*9223372036854775808:=Zw _ hl;have hb1:MO ts<=73786976294838206464:=aa
  have hT:HE (lgI 2048) ts≠0:=by
   intro e;have hz:=QD (n:=2048) Wb rfl ad6 hm hb1 (by rw[e];simp);rw[hts]at hz hm hn h0;have:=hz t.1 (hm t mR);simp only[Z0,Xj]at hn;rw[cfT,if_pos rfl,RS l hn.1]at this;exact h0 t mR aa
  have dec:=ab9 (n:=2048) Wb rfl ad6 hm hn h0 hb1 hb1 hne;obtain⟨f1,f2⟩:=Ng (x:=fxI) (K:=2^2022) (fun t ht=>(Nl _ (hm t ht)).1) hT;have e:SS ts=if pQ ts≠0 then some (pQ ts)else Rb ts 6 64:=by rw[hts];rfl
  rw[e];by_cases hq:pQ ts≠0
  .rw[if_pos hq];unfold pQ at hq ⊢;split at hq
   .exact absurd rfl hq
   .rename_i a ha;have ea:=Pj _ _ _ ha;rw[<-ea]at f1 f2;by_cases c1:0<=a.1
    .rw[if_pos c1,f1 c1]
    .rw[if_neg c1];rw[if_neg c1]at hq;by_cases c2:a.2<=0
     .rw[if_pos c2,f2 c2]
     .rw[if_neg c2]at hq;exact absurd rfl hq
  .rw[if_neg hq]
   have step:∀(r n:Nat)(nx:Option Int),(0<=(iw n ts (0,0)).1->(HE (lgI 2048) ts).sign=1)->((iw n ts (0,0)).2<=0->(HE (lgI 2048) ts).sign = -1)->(Rb ts r (n*2)=some (HE (lgI 2048) ts).sign∨(0<=(iw n ts (0,0)).1∨(iw n ts (0,0)).2<=0))->Rb ts (r+1) n=some (HE (lgI 2048) ts).sign:=by
    intro r n nx a1 a2 a3;unfold Rb;by_cases c1:0<=(iw n ts (0,0)).1
    .rw[if_pos c1,a1 c1]
    .rw[if_neg c1];by_cases c2:(iw n ts (0,0)).2<=0
     .rw[if_pos c2,a2 c2]
     .rw[if_neg c2];rcases a3 with h|h|h
      .exact h
      .exact absurd h c1
      .exact absurd h c2
   have l64:=Ng (x:=lgI 64) (K:=2^1984) (fun t ht=>(Nl _ (hm t ht)).2.1) hT;have l128:=Ng (x:=lgI 128) (K:=2^1920) (fun t ht=>(Nl _ (hm t ht)).2.2.1) hT;have l256:=Ng (x:=lgI 256) (K:=2^1792) (fun t ht=>(Nl _ (hm t ht)).2.2.2.1) hT;have l512:=Ng (x:=lgI 512) (K:=2^1536) (fun t ht=>(Nl _ (hm t ht)).2.2.2.2.1) hT
   have l1024:=Ng (x:=lgI 1024) (K:=2^1024) (fun t ht=>(Nl _ (hm t ht)).2.2.2.2.2) hT;rw[<-RI]at l64 l128 l256 l512 l1024;have l2048:=abh hT
   exact step 5 64 none l64.1 l64.2 (.inl (step 4 128 none l128.1 l128.2 (.inl (step 3 256 none l256.1 l256.2 (.inl (step 2 512 none l512.1 l512.2 (.inl (step 1 1024 none l1024.1 l1024.2 (.inl (step 0 2048 none l2048.1 l2048.2 (.inr dec)))))))))))
def rpl(b:Nat):List Q->LiQ->Prop
 |x::s,a::r=>rp b x a∧rpl b s r
 |[],[]=>True
 |_,_=>False
def kh(z:Int):LiQ->LiQ->LiQ
 |a::r,c::t=>(a+z*c)::kh z r t
 |_,_=>[]
theorem Rc{b:Nat}:∀{s:List Q}{r:LiQ},rpl b s r->r.length=s.length
 |[],[],_=>rfl
 |x::s,a::r,h=>by simp[Rc h.2]
 |[],_::_,h=>h.elim
 |_::_,[],h=>h.elim
theorem Jb{b:Nat}(z:Int):∀{o s:List Q}{r t:LiQ},o.length=s.length->rpl b o r->rpl b s t->rpl b (xq (z,1) o s) (kh z r t)
 |[],[],[],[],_,_,_=>trivial
 | x::o,y::s,a::r,c::t,hl,h1,h2=>by
  simp only[xq,kh];exact⟨ZW h1.1 (ach z h2.1),Jb z (by simpa using hl) h1.2 h2.2⟩
 |[],_::_,_,_,hl,_,_=>by simp at hl
 |_::_,[],_,_,hl,_,_=>by simp at hl
 |[],[],_::_,_,_,h,_=>h.elim
 |[],[],[],_::_,_,_,h=>h.elim
 |_::_,_::_,[],_,_,h,_=>h.elim
 |_::_,_::_,_::_,[],_,_,h=>h.elim
theorem KM(b:Nat):∀n:Nat,rpl b (List.replicate n (0,1)) (List.replicate n 0)
 |0=>trivial
 | n+1=>by
  rw[List.replicate_succ,List.replicate_succ];exact⟨Vx b,KM b n⟩
theorem KO{b:Nat}(m:Nat):∀{s:List Q}{r:LiQ},rpl b s r->rpl (b*m) s (r.map fun a=>a*m)
 |[],[],_=>trivial
 |x::s,a::r,h=>⟨ZU m h.1,KO m h.2⟩
 |[],_::_,h=>h.elim
 |_::_,[],h=>h.elim
theorem Pk(z:Int):∀{r t L:LiQ},r.length=t.length->uR (kh z r t) L=uR r L+z*uR t L
 |[],[],L,_=>by simp[kh,uR]
 |a::r,c::t,[],_=>by simp[kh,uR]
 | a::r,c::t,l::L,h=>by
  simp only[kh,uR,Pk z (r:=r) (t:=t) (L:=L) (by simpa using h),Xb,Int.mul_add,Int.mul_assoc];omega
 |[],_::_,_,h=>by simp at h
 |_::_,[],_,h=>by simp at h
theorem QL:∀(n:Nat)(L:LiQ),uR (List.replicate n 0) L=0
 |0,L=>by simp[uR]
 |n+1,[]=>by simp[List.replicate_succ,uR]
 |n+1,l::L=>by simp[List.replicate_succ,uR,QL n L]
theorem M9(m:Int):∀(r L:LiQ),uR (r.map fun a=>a*m) L=uR r L*m
 |[],L=>by simp[uR]
 |a::r,[]=>by simp[uR]
 | a::r,l::L=>by
  simp only[Z0,uR,M9 m r L,Xb];rw[Yn]
theorem kf(z:Int):∀{r t:LiQ},r.length=t.length->(kh z r t).length=r.length
 |[],[],_=>rfl
 |a::r,c::t,h=>by simp[kh,kf z (r:=r) (t:=t) (by simpa using h)]
 |[],_::_,h=>by simp at h
 |_::_,[],h=>by simp at h
theorem Uw{b B:Nat}:∀{s:List Q}{r:LiQ},rpl b s r->(∀a∈r,a.natAbs<=B)->bdL b B s
 |[],[],_,_=>fun x hx=>by simp at hx
 | x::s,a::r,h,hb=>by
  have ih:=Uw h.2 fun c hc=>hb c (by simp[hc])
  intro y hy;simp only[Zs]at hy;rcases hy with rfl|hy
  .exact⟨a,h.1,hb a mR⟩
  .exact ih y hy
 |[],_::_,h,_=>h.elim
 |_::_,[],h,_=>h.elim
theorem Sp{b d:Nat}(h:Int->Int)(hb:0<b)(hd:d∣b):∀{p:LiQ}{s:List Q}{r:LiQ},s.length=p.length->rpl b s r->(∀x∈s,x.2∣d)->HE h (o7 d p s)*((b/d:Nat):Int)=uR r (p.map h)
 |[],[],[],_,_,_=>by simp[o7,HE,uR]
 | c::p,x::s,a::r,hl,hr,hv=>by
  have ih:=Sp h hb hd (p:=p) (s:=s) (r:=r) (by simpa using hl) hr.2 fun y hy=>hv y (by simp[hy])
  have hx:=hv x mR;have p1:=hr.1.1.1;have d0:0<d:=Nat.pos_of_dvd_of_pos hd hb
  have key:x.1*((d/x.2:Nat):Int)*((b/d:Nat):Int)=a:=by
   obtain⟨u,hu⟩:=hx;obtain⟨v,hv'⟩:=hd;have e1:d/x.2=u:=by rw[hu];exact Xx _ p1
   have e2:b/d=v:=by rw[hv'];exact Xx _ d0
   rw[e1,e2];have h2:=hr.1.2;rw[hv',hu,Int.natCast_mul,Int.natCast_mul]at h2;refine Int.eq_of_mul_eq_mul_right (a:=(x.2:Int)) aa ?_;rw[<-h2];simp only[Xs,Int.mul_left_comm,Int.mul_assoc]
  simp only[o7];split
  .rename_i h0;rw[h0]at key;simp only[Int.zero_mul]at key;rw[ih,Z0,uR,<-key];simp
  .rw[HE,Xb,ih,Z0,uR];simp only;rw[Yn,key]
 |[],_::_,_,hl,_,_=>by simp at hl
 |_::_,[],_,hl,_,_=>by simp at hl
 |[],[],_::_,_,h,_=>h.elim
 |_::_,_::_,[],_,h,_=>h.elim
theorem LZ{k:Int}(hk:0<k):(z*k).sign=z.sign:=by rw[Int.sign_mul,W8 hk,Int.mul_one]
def L5(p:LiQ):LiQ:=p.map (lgI 2048)
theorem ZL{b B:Nat}(hp:in6 p)(hl:s.length=p.length)(hb:0<b)(hr:rpl b s r)(hB:∀a∈r,a.natAbs<=B)(hB2:B<9223372036854775808):SV p s ((uR r (L5 p)).sign):=by
 have bd:=Uw hr hB;have h1:=aen hp hb bd hB2;have hd:∀x∈s,0<x.2:=fun x hx=>(afF hb bd x hx).1
 have hll:(tq p s).length<=6:=by
  have:=MN (d:=iP 1 s) p s;have:=hp.2.1;unfold tq;omega
 have dv:∀x∈s,x.2∣iP 1 s:=fun x hx=>(Pp (s:=s) (d:=1)).2 x hx
 have d0:0<iP 1 s:=Po AF hd;have dd:=abH bd;have hs:=ab7 (Ue hp) (Sv hp.1) (Sw d0 fun x hx=>⟨hd x hx,dv x hx⟩) hll fun t ht=>(h1.2 t ht).2.2
 refine⟨aeA h1,aeZ (Ue hp),?_⟩;rw[hs];have:=Sp (lgI 2048) hb dd hl hr dv;unfold L5;rw[<-this,LZ]
 .rfl
 .have:=Wo (Xf hb dd) d0;omega
theorem afv{a b:List Q}{m A B:Nat}(hp:in6 p)(la:a.length=p.length)(lb:b.length=p.length)(n0:0<n)(m0:0<m)(ha:rpl n a r)(hb:rpl m b t)(hA:∀x∈r,x.natAbs<=A)(hB:∀x∈t,x.natAbs<=B)(hC:A*m+B*n<9223372036854775808):
  SV p (dfS p a b) ((uR r (L5 p)*m-uR t (L5 p)*n).sign):=by
 have lr:=Rc ha;have lt:=Rc hb;have r1:=KO m ha;have r2:=KO n hb;rw[Y5 m n]at r2;have z:=KM (n*m) p.length;have s1:=Jb 1 (by simp[la]) z r1;have s2:=Jb (-1) (by rw[Iy _ _ _ (by simp[la]),la,lb]) s1 r2;have e:xq (-1,1) (xq (1,1) (List.replicate p.length (0,1)) a) b=dfS p a b:=by simp[dfS,Hv,vR]
 rw[e]at s2;have h1:(kh 1 (List.replicate p.length 0) (r.map fun a=>a*(m:Int))).length=p.length:=by rw[kf _ (by simp[lr,la])];simp
 have hd:uR (kh (-1) (kh 1 (List.replicate p.length 0) (r.map fun a=>a*(m:Int))) (t.map fun a=>a*(n:Int))) (L5 p)=uR r (L5 p)*m-uR t (L5 p)*n:=by
  rw[Pk _ (by rw[h1];simp[lt,lb]),Pk _ (by simp[lr,la]),QL,M9,M9];omega
 have ld:(dfS p a b).length=p.length:=by rw[<-e,Iy _ _ _ (by rw[Iy _ _ _ (by simp[la]),la,lb]),lb]
 rw[<-hd];refine ZL hp ld (Yi n0 m0) s2 (B:=A*m+B*n) ?_ hC
 have vb:∀(z:Int)(X Y:Nat)(u v:LiQ),(∀x∈u,x.natAbs<=X)->(∀x∈v,x.natAbs<=Y)->∀x∈kh z u v,x.natAbs<=X+z.natAbs*Y:=by
  intro z X Y u
  induction u with
  |nil=>intro v _ _ x hx;simp[kh]at hx
  | cons a u ih=>
   intro v h1 h2 x hx;cases v with
   |nil=>simp[kh]at hx
   | cons c v=>
    simp only[kh,Zs]at hx;rcases hx with rfl|hx
    .have q1:=h1 a mR;have q2:=h2 c mR;have q3:=Int.natAbs_add_le a (z*c);rw[Yr]at q3;have q4:=Zr z.natAbs q2;omega
    .exact ih v (fun y hy=>h1 y (by simp[hy])) (fun y hy=>h2 y (by simp[hy])) x hx
 have q1:∀x∈r.map (fun a=>a*(m:Int)),x.natAbs<=A*m:=fun x hx=>by
  obtain⟨y,hy,rfl⟩:=Zi.1 hx;rw[Yr,Int.natAbs_natCast];exact Zw _ (hA y hy)
 have q2:∀x∈t.map (fun a=>a*(n:Int)),x.natAbs<=B*n:=fun x hx=>by
  obtain⟨y,hy,rfl⟩:=Zi.1 hx;rw[Yr,Int.natAbs_natCast];exact Zw _ (hB y hy)
 have q3:=vb 1 0 (A*m) (List.replicate p.length 0) _ (fun x hx=>by rw[List.mem_replicate]at hx;rw[hx.2];simp) q1;have q4:=vb (-1) _ (B*n) _ _ q3 q2;intro x hx;have:=q4 x hx;simpa using this
structure AB(p:LiQ)(l:List Rw):Prop where
 pc:pcB p=0
 i6:in6 p
 hl:0<p.length
 rw:∀r∈l,r.length=p.length∧∀x∈r,x.natAbs<=9
theorem aab:CP Y F.Hj [I z] (B (II z)):=by
 refine Ux ?_;by_cases h : -1000000000<=z
 .by_cases h2:z<=1000000000
  .simp[Hj,h,h2];exact F5 (by simp[II,h,h2])
  .simp[Hj,h,h2];exact F5 (by simp[II,h,h2])
 .simp[Hj,h];exact F5 (by simp[II,h])
def rcB(l:LiQ):Int:=if 64<l.length∨(l.any fun x=>!II x)=true then 4 else 0
theorem Rk{l:LiQ}(hN:l.length<1000000000):CP Y F.FJ [lst di l] (I (rcB l)):=by
 refine SZ ?_
 have co:=Kx (g:=F.FI) (p:=fun x=>!II x) l aa (fun x _=>by
  refine OW ?_;simp[FI];refine cd aab ?_;simp)
 by_cases h:64<l.length
 .have g:(64:Int)<(l.length:Int):=aa;simp[FJ,g];exact A3 (by simp[rcB,h])
 .have g:¬(64:Int)<(l.length:Int):=aa;simp[FJ,g];refine cd co ?_;cases e:l.any fun x=>!II x with
  |true=>simp;exact A3 (by simp only[rcB,e,or_true,if_true])
  |false=>simp;exact A3 (by simp only[rcB,e,h];rfl)
theorem Kl{l:LiQ}:rcB l=0↔l.length<=64∧∀x∈l,II x=true:=by
 unfold rcB;by_cases h:64<l.length∨(l.any fun x=>!II x)=true
 .rw[if_pos h];simp only[List.any_eq_true,Zp]at h;constructor
  .intro e;cases e
  .rintro⟨h1,h2⟩;rcases h with h|⟨x,hx,hx2⟩
   .omega
   .rw[h2 x hx]at hx2;cases hx2
 .rw[if_neg h];refine⟨fun _=>⟨aa,fun x hx=>?_⟩,fun _=>rfl⟩;cases e:II x with
  |true=>rfl
  |false=>exact absurd (.inr (List.any_eq_true.2 ⟨x,hx,by simp[e]⟩)) h
theorem aev(l:LiQ):rcB l=0∨rcB l=4:=by unfold rcB;split<;>simp
theorem acf{l:LiQ}(hN:l.length<1000000000):CP Y F.Ga [lst di l] (.tup [if rcB l=0 then lst di l else lst di [],I (rcB l)]):=by
 refine Rf ?_;have rc:=Rk hN;simp[Ga];refine cd rc ?_;rcases aev l with h|h
 .rw[h];simp;exact⟨[],by simp[cX,AT]⟩
 .rw[h];simp;exact⟨[],by simp[cX,AT,lst]⟩
def hq1(l:List Tx):Hp:=[(1,.data 2 (l.flatMap ub) true false)]
structure xv(p:LiQ)(m:Nat)(bd:List Q):Prop where
 m0:0<m
 m1:m<=1000
 ln:bd.length=p.length
 bd:bdL m 1000 bd
theorem xv.ok{m:Nat}(b:xv p m bd):okS bd:=uY b.m0 b.bd (by have:=b.m1;omega) aa
theorem QJ:∀(q:LiQ)(o:Option Int),NB o q=true->(∀x∈q,uf x=true)∧q.Nodup∧∀x∈q,∀y,o=some y->y<x
 |[],_,_=>by simp
 | x::q,o,h=>by
  simp only[NB,Z7]at h;obtain⟨h1,h2,h3⟩:=QJ q (some x) (by grind);refine⟨by grind,?_,?_⟩
  .rw[Xj];refine⟨fun hm=>?_,h2⟩;have:=h3 x hm x rfl;omega
  .intro y hy z hz;subst hz;have hx:z<x:=by grind[ug]
   rcases Zs.1 hy with rfl|hy
   .exact hx
   .have:=h3 y hy x rfl;omega
theorem aes(h:smR r=true):∀x∈r,x.natAbs<=1000:=by intro x hx;simp only[smR,Z3,Z7,decide_eq_true_eq]at h;have:=h x hx;omega
theorem aao(h:pcB p=0):p.Nodup∧p.length<=6∧0<p.length:=by
 have e:=aap p;rw[h]at e;have e:Od p=true:=by rw[<-e];rfl
 simp only[Od,Z7,decide_eq_true_eq]at e;exact⟨(QJ p none e.1.1).2.1,e.2,e.1.2⟩
def pcS(p:LiQ):Prop:=pcB p=0∧∀x∈p,x∈c6P
theorem Ei(h:pcS p):in6 p∧0<p.length:=⟨⟨(aao h.1).1,(aao h.1).2.1,h.2⟩,(aao h.1).2.2⟩
def qb(m:LLQ):D:=.sl m.length (m.map row)
@[simp]theorem vp(m:LLQ):fL (.d (qb m))=some (I m.length):=rfl
abbrev Lk:=Int×Int
def lkC(x:Lk):LdQ:=[di x.1,di x.2]
theorem KV(x:Lk):(lkC x).length=2:=rfl
def lkD(l:List Lk):D:=.sl l.length (l.flatMap lkC)
@[simp]theorem wT(l:List Lk):fL (.d (lkD l))=some (I l.length):=rfl
def wkC(p:LiQ)(ch:List LLQ)(lk:List (List Lk)):LwQ:=[lst di p,lst qb ch,lst lkD lk]
def wkB(p:LiQ)(ch:List LLQ)(lk:List (List Lk)):Nat×Bk:=(1,.vars (wkC p ch lk))
def oN(n most:Nat):Int:=if n=0 then 13 else if most<n then 4 else 0
theorem Pw(n most:Nat):CP Y F.DN [I n,I most] (I (oN n most)):=by
 refine PZ ?_;unfold oN;by_cases h:n=0
 .rw[if_pos h];have h':(n:Int)=0:=aa;simp[DN,h']<;>exact A3 rfl
 .rw[if_neg h];have h':¬(n:Int)=0:=aa;by_cases g:most<n
  .rw[if_pos g];have g':(most:Int)<n:=aa;simp(disch:=try exact zN)[DN,h',g']<;>exact A3 rfl
  .rw[if_neg g];have g':¬(most:Int)<n:=aa;simp(disch:=try exact zN)[DN,h',g']<;>exact A3 rfl
def uT(p:LiQ):List LLQ->Int
 |[]=>0
 |c::l=>if oN c.length 12≠0 then oN c.length 12 else if mzB p c≠0 then mzB p c else uT p l
theorem adY{p:LiQ}{ch:List LLQ}{lk:List (List Lk)}(hp:p.length<1000000000)(hc:∀c∈ch,c.length<1000000000)(hN:ch.length<1000000)(k:KL):∀(q a:List LLQ),a++q=ch ->
  (uT p q=0->k (.exit 0) [] [wkB p ch lk,nnQ])->(uT p q≠0->k .ret [I (uT p q)] [wkB p ch lk,nnQ]) ->
  lp (GJ (CX Y) (.ptr 0 1 0 3) (lst qb ch) (I ch.length)) [] [wkB p ch lk,nnQ] [I a.length] [wkB p ch lk,nnQ] k
 | [],a,ha,h0,h1=>by
  have e:a.length=ch.length:=by rw[<-ha];simp
  refine AJ ?_;simp[GJ,e];exact h0 rfl
 | c::q,a,ha,h0,h1=>by
  have hl:ch.length=a.length+(q.length+1):=by rw[<-ha];simp
  have hcl:=hc c (by grind);have i1:∀h:Hp,ixV h 1 (lst qb ch) (I a.length)=some (.dptr (ch.map qb) a.length):=fun h=>qw qb _ h rfl aa
  have i2:∀h:Hp,ld1 h (.dptr (ch.map qb) a.length)=some (.d (qb c)):=fun h=>by rw[jO qb [] ch h aa,<-ha,nr]
  have f1:ld1 [wkB p ch lk,nnQ] (.ptr 0 1 0 3)=some (lst di p):=rfl;refine AJ ?_;simp only[uT]at h0 h1;simp(disch:=try exact zN)[GJ,i1,i2];refine cd (Pw c.length 12) ?_;by_cases g:oN c.length 12=0
  .rw[if_neg (by simp[g])]at h0 h1;simp[g,f1];refine cd (args:=[lst di p,mat c]) (Gr hp hcl) ?_;by_cases g2:mzB p c=0
   .rw[if_neg (by simp[g2])]at h0 h1;simp(disch:=try exact zN)[g2];have:=adY hp hc hN k q (a++[c]) (by grind) h0 h1
    simp_all
   .rw[if_pos g2]at h1;simp[g2]
    grind
  .rw[if_pos g]at h1;simp[g]
   grind
def M1(a b:Nat)(x:Lk):Bool:=decide (0<=x.1)&&decide (x.1<a)&&decide (0<=x.2)&&decide (x.2<b)
def wP(ch:List LLQ):Nat->List (List Lk)->Int
 |_,[]=>0
 |i,l::ls=>if oN l.length 12≠0 then oN l.length 12 else if l.all (M1 (nth [] ch i).length (nth [] ch (i+1)).length)=true then wP ch (i+1) ls else 3
theorem adW{p:LiQ}{ch:List LLQ}{lk:List (List Lk)}{i:Nat}(hi:i+1<ch.length)(hN:ch.length<1000000){l:List Lk}(hl:l.length<1000000)(k:KL):∀(q a:List Lk),a++q=l ->
  (q.all (M1 (nth [] ch i).length (nth [] ch (i+1)).length)=true->k (.exit 4) [] [wkB p ch lk,nnQ])->(q.all (M1 (nth [] ch i).length (nth [] ch (i+1)).length)=false->∀h,k .ret [I 3] h) ->
  lp (C8 (CX Y) (.ptr 0 1 0 3) (I i) (.d (lkD l)) (I l.length)) [1] [wkB p ch lk,nnQ] [I a.length] [wkB p ch lk,nnQ] k
 | [],a,ha,h0,h1=>by
  have e:a.length=l.length:=by rw[<-ha];simp
  refine AJ ?_;simp[C8,e]
  grind
 | (f,t)::q,a,ha,h0,h1=>by
  have hll:l.length=a.length+(q.length+1):=by rw[<-ha];simp
  have i1:∀h:Hp,ixV h 2 (.d (lkD l)) (I a.length)=some (.dptr (l.flatMap lkC) (a.length*2)):=fun h=>by
   have:=GE lkC KV l h (k:=.i64) (i:=(a.length:Int)) aa aa;trivial
  have i2:∀h:Hp,ldA h 2 (.dptr (l.flatMap lkC) (a.length*2))=some (.agg [I f,I t]):=fun h=>by
   have:=GD lkC KV ((0,0):Lk) l h (j:=a.length) aa;rw[this,<-ha,nr];rfl
  have f1:∀b:Nat×Bk,ld1 [wkB p ch lk,b] (.ptr 0 1 1 3)=some (lst qb ch):=fun _=>rfl
  have c1:∀(h:Hp),ixV h 1 (lst qb ch) (I i)=some (.dptr (ch.map qb) i):=fun h=>qw qb _ h rfl aa
  have c2:∀(h:Hp),ld1 h (.dptr (ch.map qb) i)=some (.d (qb (nth [] ch i))):=fun h=>jO qb [] ch h aa
  have c3:∀(h:Hp),ixV h 1 (lst qb ch) (I ((i:Int)+1))=some (.dptr (ch.map qb) (i+1)):=fun h=>qw qb _ h aa aa
  have c4:∀(h:Hp),ld1 h (.dptr (ch.map qb) (i+1))=some (.d (qb (nth [] ch (i+1)))):=fun h=>jO qb [] ch h aa
  simp only[List.all_cons]at h0 h1;refine AJ ?_;by_cases b1:f<0
  .simp(disch:=try exact zN)[C8,i1,i2,b1]
   grind[M1]
  .by_cases b2:((nth [] ch i).length:Int)<=f
   .simp(disch:=try exact zN)[C8,i1,i2,b1,f1,c1,c2,b2]
    grind[M1]
   .by_cases b3:t<0
    .simp(disch:=try exact zN)[C8,i1,i2,b1,f1,c1,c2,b2,b3]
     grind[M1]
    .by_cases b4:((nth [] ch (i+1)).length:Int)<=t
     .simp(disch:=try exact zN)[C8,i1,i2,b1,f1,c1,c2,b2,b3,c3,c4,b4]
      grind[M1]
     .have ok:M1 (nth [] ch i).length (nth [] ch (i+1)).length (f,t)=true:=by simp[M1];omega
      rw[ok]at h0 h1;simp(disch:=try exact zN)[C8,i1,i2,b1,f1,c1,c2,b2,b3,c3,c4,b4];have:=adW (p:=p) (lk:=lk) hi hN hl k q (a++[(f,t)]) (by grind) (by trivial) (by trivial);have h2:aL [1] 0 [wkB p ch lk,nnQ] [wkB p ch lk,(1,.vars [I f,I t])]=[wkB p ch lk,nnQ]:=rfl;refine⟨rfl,?_⟩
      simp_all
theorem adX{p:LiQ}{ch:List LLQ}{lk:List (List Lk)}(hcl:lk.length+1=ch.length)(hN:ch.length<1000000)(hl:∀l∈lk,l.length<1000000)(k:KL):∀(q a:List (List Lk)),a++q=lk ->
  (wP ch a.length q=0->k (.exit 2) [] [wkB p ch lk,nnQ])->(wP ch a.length q≠0->∀h,k .ret [I (wP ch a.length q)] h) ->
  lp (GI (CX Y) (.ptr 0 1 0 3) (lst lkD lk) (I lk.length)) [1] [wkB p ch lk,nnQ] [I a.length] [wkB p ch lk,nnQ] k
 | [],a,ha,h0,h1=>by
  have e:a.length=lk.length:=by rw[<-ha];simp
  refine AJ ?_;simp[GI,e];exact h0 rfl
 | l::q,a,ha,h0,h1=>by
  have hll:lk.length=a.length+(q.length+1):=by rw[<-ha];simp
  have hle:=hl l (by grind);have i1:∀h:Hp,ixV h 1 (lst lkD lk) (I a.length)=some (.dptr (lk.map lkD) a.length):=fun h=>qw lkD _ h rfl aa
  have i2:∀h:Hp,ld1 h (.dptr (lk.map lkD) a.length)=some (.d (lkD l)):=fun h=>by rw[jO lkD [] lk h aa,<-ha,nr]
  simp only[wP]at h0 h1;refine AJ ?_;simp(disch:=try exact zN)[GI,i1,i2];refine cd (Pw l.length 12) ?_;by_cases g:oN l.length 12=0
  .rw[if_neg (by simp[g])]at h0 h1;simp[g];refine lo (adW (i:=a.length) aa hN hle _ l [] rfl (fun g2=>?_) (fun g2 h=>?_))
   .rw[if_pos g2]at h0 h1;simp(disch:=try exact zN);have:=adX (p:=p) hcl hN hl k q (a++[l]) (by grind) (by grind) (by grind);have h2:aL [1] 0 [wkB p ch lk,nnQ] [wkB p ch lk,nnQ]=[wkB p ch lk,nnQ]:=rfl;refine⟨rfl,?_⟩
    simp_all
   .rw[if_neg (by grind)]at h1;simp
    grind
  .rw[if_pos g]at h1;simp[g]
   grind
def dcB(p:LiQ)(ch:List LLQ)(lk:List (List Lk)):Int:=
 if pcB p≠0 then pcB p else if oN ch.length 64≠0 then oN ch.length 64 else if uT p ch≠0 then uT p ch else if lk.length+1=ch.length then wP ch 0 lk else 5
theorem K4{lk:List (List Lk)}(hp:p.length<1000000000)(hc:∀c∈ch,c.length<1000000000)(hN:ch.length<1000000)(hM:lk.length<1000000)(hl:∀l∈lk,l.length<1000000):
  CP Y F.ES [.agg (wkC p ch lk)] (I (dcB p ch lk)):=by
 refine P1 ?_;have f0:∀b:Nat×Bk,ld1 [wkB p ch lk,b] (.ptr 0 1 0 3)=some (lst di p):=fun _=>rfl
 have f1:∀b:Nat×Bk,ld1 [wkB p ch lk,b] (.ptr 0 1 1 3)=some (lst qb ch):=fun _=>rfl
 have f2:∀b:Nat×Bk,ld1 [wkB p ch lk,b] (.ptr 0 1 2 3)=some (lst lkD lk):=fun _=>rfl
 have bx:∀(k:kkQ)(u:PU k),rh (oR 0 (.agg (wkC p ch lk)) [nnQ,nnQ]) k u=k (.ptr 0 1 0 3) [wkB p ch lk,nnQ]:=fun _ _=>rfl
 have hgX:∀b:Nat×Bk,bB [wkB p ch lk,b] 0 1=.vars [lst di p,lst qb ch,lst lkD lk]:=fun _=>rfl
 unfold dcB;simp[ES,bx,f0];refine cd (FY hp) ?_;by_cases h:pcB p=0
 .rw[if_neg (by simp[h])];simp[h,f1];refine cd (Pw ch.length 64) ?_;by_cases g:oN ch.length 64=0
  .rw[if_neg (by simp[g])];simp[g,f1];refine lo (adY hp hc hN _ ch [] rfl (fun g2=>?_) (fun g2=>?_))
   .rw[if_neg aa];simp(disch:=try exact zN)[f1,f2,hgX];by_cases g3:lk.length+1=ch.length
    .rw[if_pos g3];have g4:(lk.length:Int)=(ch.length:Int)-1:=aa;simp[g4,f2,hgX];rw[<-g4];refine lo (adX (p:=p) g3 hN hl _ lk [] rfl (fun g5=>?_) (fun g5 h=>?_))
     .have g5:wP ch 0 lk=0:=g5;rw[g5];simp<;>exact A3 rfl
     .simp<;>exact A3 rfl
    .rw[if_neg g3];have g4:¬(lk.length:Int)=(ch.length:Int)-1:=aa;simp[g4]<;>exact A3 rfl
   .rw[if_pos g2];simp<;>exact A3 rfl
  .rw[if_pos g];simp[g]<;>exact A3 rfl
 .rw[if_pos h];simp[h]<;>exact A3 rfl
theorem aaq(a b:LiQ):CP Y F.HY [lst di a,lst di b] (.fn F.FH [] [.dptr [row a] 0,.dptr [row b] 0]):=by
 refine SY ?_;have bl:∀(l:LiQ)(s:Nat)(h:Hp)(k:kkQ)(u:PU k),rh (oR s (lst di l) h) k u=rh (alV s [lst di l] h) k u:=fun _ _ _ _ _=>rfl
 simp[HY,bl];exact⟨_,rfl⟩
def prX(a b:LiQ):List LvQ:=(a.zip b).map fun t=>[.int .i64 t.1,.int .i64 t.2]
theorem aaV:∀l:LiQ,lits (l.map di)=some (l.map fun z=>.int .i64 z)
 |[]=>rfl
 | t::ts=>by
  have:=aaV ts;simp only[Z0,lits,this,di]
theorem ae8{a b:LiQ}(hN:a.length<=700000)(hab:a.length=b.length):sqV Y.seq (.fn F.FH [] [.dptr [row a] 0,.dptr [row b] 0])=some (prX a b):=by
 show rG (.sl a.length (a.map di)) (.sl b.length (b.map di))=_
 have hN':a.length<4611686018427387904:=aa;have hb:b.length=a.length:=hab.symm;simp only[rG,slD,aaV,List.length_map,hb,hN',and_self,if_true];congr 1;unfold prX;rw[List.zip_map,Yg];rfl
def iA(a b:LiQ):LiQ:=(a.zip b).map fun t=>t.1+t.2
def adH(n:Nat)(o:LiQ):Hp:=[(1,.data 1 ((o++List.replicate (n-o.length) 0).map di) true false),(1,.vars [.ref 0 1 0 o.length n n]),nnQ]
theorem T7{n:Nat}(hn:n<=64)(k:Exit->Hp->Prop)(h0:Hp)(hh:h0.length=3):∀(t:List (Int×Int))(o:LiQ),o.length+t.length=n->(∀x∈t,II x.1=true∧II x.2=true) ->
  k .normal (adH n (o++t.map fun x=>x.1+x.2)) ->
  rg 2 (Lq (CX Y) (.ptr 1 1 0 1)) [] h0 k (t.map fun x=>[.int .i64 x.1,.int .i64 x.2]) (adH n o)
 |[],o,hl,ht,hk=>by simpa[rg]using hk
 | x::t,o,hl,ht,hk=>by
  obtain⟨h1,h2⟩:=ht x mR;have b1:=MX.1 h1;have b2:=MX.1 h2;have li1:∀(z:Int)(H:Hp),BS 1 [D.int IntKind.i64 0] [(0,I z)] H=some ([di z],H):=fun z H=>by simp[BS,cY,eA,toD,di]
  have hlen:(o.length:Int)+1<=n:=by simp at hl;omega
  have ap:∀q:kkQ,apV false 2 1 8 (.ref 0 1 0 o.length n n) (.d (.sl 1 [di (x.1+x.2)])) (adH n o) q=q (.ref 0 1 0 (o.length+1) n n) [(1,.data 1 ((o++[x.1+x.2]++List.replicate (n-(o.length+1)) 0).map di) true false),(1,.vars [.ref 0 1 0 o.length n n]),nnQ]:=by
   intro q;have hg:aj (adH n o) 0 1=.data 1 ((o++List.replicate (n-o.length) 0).map di) true false:=rfl;have hle:((o++List.replicate (n-o.length) 0).map di).length=n:=by simp only[List.length_cons]at hl;simp;omega
   show apC false 2 1 8 (.ref 0 1 0 o.length n n) 1 [di (x.1+x.2)] (adH n o) q=_
   unfold apC;rw[if_neg AF];simp only[hg];rw[if_pos ⟨trivial,by rw[hle],aa,by rw[hle];omega,rfl⟩,if_pos (by simp only[List.length_cons]at hl;omega)];simp only[Bool.or_self,Zt,if_false];have e1:((o++List.replicate (n-o.length) 0).map di).take (0+o.length*1)=o.map di:=mR
   have e2:((o++List.replicate (n-o.length) 0).map di).drop (0+(o.length+1)*1)=(List.replicate (n-(o.length+1)) 0).map di:=by
    have e:n-o.length=(n-(o.length+1))+1:=by simp only[List.length_cons]at hl;omega
    rw[e,List.replicate_succ,X2,List.drop_append];simp
   rw[e1,e2];simp only[adH,aM,List.set_cons_zero,X2,Z0,Xv]
  have ih:=T7 hn k h0 hh t (o++[x.1+x.2]) (by simp at hl ⊢;omega) (fun y hy=>ht y (by simp[hy])) (by simpa using hk);have hre:∀y:Hp,y.length=3->aL [] 0 h0 y=y:=fun y hy=>ua 0 h0 y aa
  simp only[Z0];refine Rj rfl ?_;have eL:([.int .i64 x.1,.int .i64 x.2]:LvQ).map (fun v=>V.d (bv v))=[I x.1,I x.2]:=rfl;rw[eL];have l1:ld1 (adH n o) (.ptr 1 1 0 1)=some (.ref 0 1 0 o.length n n):=rfl;simp(disch:=try exact zN)[Lq,l1,li1];unfold rh;rw[ap];simp[hre,kL];simpa[adH]using ih
theorem aai{a b:LiQ}(ha:rcB a=0)(hb:rcB b=0)(hab:a.length=b.length):CP Y F.Jc [lst di a,lst di b] (I 0):=by refine Uy ?_;have h1:=(Kl.1 ha).1;have h2:=(Kl.1 hb).1;have ra:=Rk (l:=a) aa;have rb:=Rk (l:=b) aa;rw[ha]at ra;rw[hb]at rb;have g:(a.length:Int)=(b.length:Int):=aa;simp[Jc];refine cd ra ?_;simp;refine cd rb ?_;simp[g]
theorem abT{a b:LiQ}(hab:a.length=b.length):(iA a b).length=a.length:=by simp[iA,hab]
theorem WU{a b:LiQ}(ha:rcB a=0)(hb:rcB b=0)(hab:a.length=b.length)(hr:rcB (iA a b)=0):CP Y F.KP [lst di a,lst di b] (.tup [lst di (iA a b),I 0]):=by
 refine WT ?_;obtain⟨h1,h3⟩:=Kl.1 ha;obtain⟨h2,h4⟩:=Kl.1 hb;have bo:=aai ha hb hab;have pa:=aaq a b;have lz:=abT hab;have rr:=acf (l:=iA a b) aa;rw[hr,if_pos rfl]at rr;have ll:fL (lst di a)=some (I a.length):=rfl
 have mk:∀(k:kkQ)(u:PU k),rh (mkS 0 8 [.int .i64 0] [nnQ,nnQ,nnQ] (I 0) (I a.length)) k u=k (.ref 0 1 0 0 a.length a.length) [(1,.data 1 ((List.replicate a.length 0).map di) true false),nnQ,nnQ]:=by
  intro k u
  have er:∀n:Nat,cY n [D.int IntKind.i64 0]=(List.replicate n 0).map di:=by
   intro n
   induction n with
   |zero=>rfl
   |succ n ih=>rw[List.replicate_succ,Z0,<-ih];rfl
  unfold rh mkS;simp only;rw[if_pos ⟨aa,aa,mR,aa,aa⟩];simp only[new,List.getElem?_cons_zero,Int.toNat_natCast,er,List.length_map,Yy];rfl
 have lo_:=T7 h1 (fun ex h=>exK [(.normal,fun _ h=>
   bnd (ld1 h (.ptr 1 1 0 1)) fun v8=>
   cal (CX Y).p h (.fn F.Ga [] []) [v8] fun v9 h=>
   ext v9 0 fun v10=>
   ext v9 1 fun v11=>
   out (.tup [lst di (iA a b),I 0]) (.tup [v10,v11]) h)] ex [] h) (adH a.length []) rfl (a.zip b) [] (by simp[hab]) (fun x hx=>⟨h3 _ (List.of_mem_zip hx).1,h4 _ (List.of_mem_zip hx).2⟩) (by
  have ez:(a.zip b).map (fun x=>x.1+x.2)=iA a b:=rfl;rw[List.nil_append,ez]
  have e0:adH a.length (iA a b)=[(1,.data 1 ((iA a b).map di) true false),(1,.vars [.ref 0 1 0 (iA a b).length a.length a.length]),nnQ]:=by
   unfold adH;rw[lz];simp
  rw[e0];simp;refine cdz (ds:=[lst di (iA a b)]) (h':=[(1,.data 1 ((iA a b).map di) true true),(1,.vars [.ref 0 1 0 (iA a b).length a.length a.length]),nnQ]) ?_ rr ?_
  .simp[AT,cX,toD,aj,aM,lz,lst];rw[Zd (by simp[lz])]
  .simp;exact AO (pf _ _ _) rfl)
 simp[KP];refine cd bo ?_;simp[ll,mk];refine cd pa ?_;simp only[adH,List.nil_append,List.length_nil,Nat.sub_zero,List.map_replicate]at lo_;simp;exact ro (ae8 aa hab) lo_
def bdR(B:Int)(r:LiQ):Prop:=∀x∈r,-B<=x∧x<=B
theorem L0{α β:Type}(f:α->β)(a:List α)(x y:α)(b:List α):((a++x::b).map f).set a.length (f y)=(a++y::b).map f:=by simp only[X2,Z0];rw[List.set_append_right _ _ mR];simp
def T9(s:Int):LiQ->LiQ->LiQ
 |a::l,b::m=>(a+s*b)::T9 s l m
 |_,_=>[]
def oH(o:LiQ):Hp:=[(1,.data 1 (o.map di) true false)]
theorem ZE{s iv:Int}(hi:(iv=0∧s=1)∨(iv=1∧s = -1)){r:LiQ}(hN:r.length<1000000)(hr:bdR 1000000000000 r)(h0:Hp)(hh:h0.length=1)(k:KL):∀(q a o1 o2:LiQ),a++q=r->o1.length=a.length->o2.length=q.length->bdR 1000000000000 o2 ->
  k (.exit 2) [] (oH (o1++T9 s o2 q)) ->
  lp (GF (CX Y) (.ref 0 1 0 r.length r.length r.length) (I iv) (lst di r) (I r.length)) [] h0 [I a.length] (oH (o1++o2)) k
 | [],a,o1,o2,ha,h1,h2,_,hk=>by
  have e:a.length=r.length:=by rw[<-ha];simp
  have e2:o2=[]:=by cases o2 with|nil=>rfl|cons _ _=>simp at h2
  subst e2;refine AJ ?_;simp[GF,e]
  grind[T9]
 |x::q,a,o1,[],ha,h1,h2,_,hk=>by simp at h2
 | x::q,a,o1,y::o2,ha,h1,h2,hb,hk=>by
  have hl:r.length=a.length+(q.length+1):=by rw[<-ha];simp
  have bx:=hr x (by grind);have bY:=hb y mR;have hol:(o1++y::o2).length=r.length:=by simp at h2 ⊢;omega
  have i1:∀h:Hp,ixV h 1 (lst di r) (I a.length)=some (.dptr (r.map di) a.length):=fun h=>qw di _ h rfl aa
  have i2:∀h:Hp,ld1 h (.dptr (r.map di) a.length)=some (I x):=fun h=>by rw[jO di 0 r h aa,<-ha,nr];rfl
  have i3:ixV (oH (o1++y::o2)) 1 (.ref 0 1 0 r.length r.length r.length) (I a.length)=some (.ptr 0 1 a.length r.length):=by
   simp only[ixV,oH,aj];simp only[List.getElem?_cons_zero,if_true,List.length_map,hol];rw[if_pos ⟨trivial,aa,aa⟩];simp
  have i4:ld1 (oH (o1++y::o2)) (.ptr 0 1 a.length r.length)=some (I y):=by
   simp only[ld1,oH,aj];simp only[List.getElem?_cons_zero,if_true,List.length_map,hol];rw[<-h1,X2,List.getElem?_append_right mR];simp
  have i5:∀z:Int,st (oH (o1++y::o2)) 1 (.ptr 0 1 a.length r.length) (I z)=some (oH (o1++z::o2)):=fun z=>by
   rw[vU];have e:bB (oH (o1++y::o2)) 0 1=.data 1 ((o1++y::o2).map di) true false:=rfl;rw[e,vf _ _ _ _ _ _ _ _ _ (by rw[List.length_map,hol]) (by grind)];have e2:=L0 di o1 y z o2;rw[h1]at e2
   show some (aM _ 0 1 (.data 1 (((o1++y::o2).map di).set a.length (di z)) true false))=_
   rw[e2];rfl
  have hs : -1000000000000<=s*x∧s*x<=1000000000000:=by
   rcases hi with⟨_,rfl⟩|⟨_,rfl⟩<;>omega
  have ih:=ZE hi hN hr h0 hh k q (a++[x]) (o1++[y+s*x]) o2 (by grind) (by grind) (by grind) (fun z hz=>hb z (by grind)) (by grind[T9]);have hre:aL [] 0 h0 (oH (o1++(y+s*x)::o2))=oH (o1++(y+s*x)::o2):=ua 0 h0 _ (by simp[oH,hh]);have e1:o1++[y+s*x]++o2=o1++(y+s*x)::o2:=mR;have e2:((a++[x]).length:Int)=(a.length:Int)+1:=mR;rw[e1,e2]at ih
  have g:(a.length:Int)<r.length:=aa;refine AJ ?_;rcases hi with⟨rfl,rfl⟩|⟨rfl,rfl⟩
  .rw[Int.one_mul]at ih hre;simp[GF,i1,i2,i3,g];refine AN ?_;simp(disch:=try exact zN)[i3,i4,i5,hre];exact ih
  .have u : -1*x = -x:=aa;rw[u]at ih hre;simp[GF,i1,i2,i3,g];refine AN ?_;simp(disch:=try exact zN)[i3,i4,i5,hre];exact ih
def iI(a b:LiQ):LiQ:=(a.zip b).map fun t=>t.1-t.2
theorem SB{a b:LiQ}(h:b.length=a.length):(iI a b).length=a.length:=by simp[iI,h]
theorem QX:∀{r:LiQ},T9 1 (List.replicate r.length 0) r=r
 |[]=>rfl
 |x::r=>by simp[List.replicate_succ,T9,QX]
theorem T8:∀{a b:LiQ},T9 (-1) a b=iI a b
 |[],_=>by rfl
 |a::l,[]=>by rfl
 | a::l,b::m=>by
  have:=T8 (a:=l) (b:=m)
  grind[iI,T9,List.zip_cons_cons]
theorem ab4{x:LiQ}(hN:x.length<1000000)(hl:y.length=x.length)(hx:bdR 1000000000000 x)(hy:bdR 1000000000000 y):CP Y F.H3 [mat [x,y]] (lst di (iI x y)):=by
 refine TC ?_;have i1:∀h:Hp,ixV h 1 (mat [x,y]) (I 0)=some (.dptr [row x,row y] 0):=fun h=>qw row [x,y] h rfl mR
 have i2:∀h:Hp,ld1 h (.dptr [row x,row y] 0)=some (lst di x):=fun h=>rfl
 have i3:∀h:Hp,ixV h 1 (mat [x,y]) (I 1)=some (.dptr [row x,row y] 1):=fun h=>qw row [x,y] h rfl mR
 have i4:∀h:Hp,ld1 h (.dptr [row x,row y] 1)=some (lst di y):=fun h=>rfl
 have l0:fL (mat [x,y])=some (I 2):=rfl;have e0:([(1,Bk.data 1 (List.replicate x.length (D.int IntKind.i64 0)) true false)]:Hp)=oH (List.replicate x.length 0):=by simp[oH,di]
 have z0:bdR 1000000000000 (List.replicate x.length 0):=fun z hz=>by grind
 simp(disch:=try exact zN)[H3,i1,i2,l0];rw[e0];refine lo (AJ ?_);simp[HP,i1,i2];refine lo (ZE (s:=1) (iv:=0) (.inl ⟨rfl,rfl⟩) hN hx _ rfl _ x [] [] (List.replicate x.length 0) rfl rfl mR z0 ?_);rw[List.nil_append,QX];have hre:∀z,aL [] 0 (oH (List.replicate x.length 0)) (oH z)=oH z:=fun z=>ua 0 _ _ rfl
 simp[hre];refine AJ ?_;simp[HP,i3,i4];have s2:=ZE (s:=-1) (iv:=1) (.inr ⟨rfl,rfl⟩) (r:=y) aa hy;have eR:V.ref 0 1 0 y.length y.length y.length=V.ref 0 1 0 x.length x.length x.length:=by rw[hl]
 rw[eR]at s2;refine lo (s2 (oH x) rfl _ y [] [] x rfl rfl hl.symm hx ?_);rw[List.nil_append,T8];simp[hre];refine AJ ?_;simp[HP];have:=SB hl;refine⟨[(1,.data 1 ((iI x y).map di) true true)],?_⟩
 grind[cX,toD,aj,aM,lst,oH]
structure oY(n:Nat)(B:Int)(ch:List LLQ)(lk:List (List Lk)):Prop where
 len:lk.length+1=ch.length
 few:ch.length<=64
 rows:∀c∈ch,∀r∈c,r.length=n∧bdR B r
 cs:∀c∈ch,c.length<=12
 ls:∀l∈lk,l.length<=12
 ok:∀i<lk.length,(nth [] lk i).all (M1 (nth [] ch i).length (nth [] ch (i+1)).length)=true
theorem qg{a b:Nat}{x:Lk}:M1 a b x=true↔(0<=x.1∧x.1<a)∧0<=x.2∧x.2<b:=by grind[M1]
def JK(ch:List LLQ)(i:Nat)(x:Lk):LiQ:=nth [] (nth [] ch i) x.1.toNat
def nu(ch:List LLQ)(i:Nat)(x:Lk):LiQ:=nth [] (nth [] ch (i+1)) x.2.toNat
theorem oY.notes{B:Int}{lk:List (List Lk)}(w:oY n B ch lk)(hi:i<lk.length)(hj:j<(nth [] lk i).length):
  let x:=nth (0,0) (nth [] lk i) j
  (0<=x.1∧x.1<(nth [] ch i).length)∧(0<=x.2∧x.2<(nth [] ch (i+1)).length)∧((JK ch i x).length=n∧bdR B (JK ch i x))∧(nu ch i x).length=n∧bdR B (nu ch i x):=by intro x;have h:=qg.1 (Z3.1 (w.ok i hi) x (BD hj));have hl:=w.len;refine⟨h.1,h.2,w.rows _ (BD aa) _ (BD aa),w.rows _ (BD aa) _ (BD aa)⟩
def kZ(ch:List LLQ)(lk:List (List Lk))(i j:Nat):LiQ:=
 iI (JK ch i (nth (0,0) (nth [] lk i) j)) (nu ch i (nth (0,0) (nth [] lk i) j))
theorem acJ{B:Int}{lk:List (List Lk)}(w:oY n B ch lk)(hB:B<=1000000000000)(hn:n<1000000)(hi:i<lk.length)(hj:j<(nth [] lk i).length):
  CP Y F.G3 [.agg (wkC p ch lk),I i,I j] (lst di (kZ ch lk i j)):=by
 refine RJ ?_;obtain⟨⟨a0,a1⟩,⟨b0,b1⟩,⟨n1,n2⟩,n3,n4⟩:=w.notes hi hj;have hl:=w.len;have hf:=w.few;unfold kZ;obtain⟨f,t,hx⟩:∃f t,nth (0,0) (nth [] lk i) j=(f,t):=⟨_,_,rfl⟩;rw[hx]at a0 a1 b0 b1 n1 n2 n3 n4 ⊢;simp only at a0 a1 b0 b1;have bx:∀(k:kkQ)(u:PU k),rh (oR 0 (.agg (wkC p ch lk)) [nnQ,nnQ]) k u=k (.ptr 0 1 0 3) [wkB p ch lk,nnQ]:=fun _ _=>rfl
 have hgX:∀b:Nat×Bk,bB [wkB p ch lk,b] 0 1=.vars [lst di p,lst qb ch,lst lkD lk]:=fun _=>rfl
 have k1:∀h:Hp,ixV h 1 (lst lkD lk) (I i)=some (.dptr (lk.map lkD) i):=fun h=>qw lkD _ h rfl hi
 have k2:∀h:Hp,ld1 h (.dptr (lk.map lkD) i)=some (.d (lkD (nth [] lk i))):=fun h=>jO lkD [] lk h hi
 have k3:∀h:Hp,ixV h 2 (.d (lkD (nth [] lk i))) (I j)=some (.dptr ((nth [] lk i).flatMap lkC) (j*2)):=fun h=>by
  have:=GE lkC KV (nth [] lk i) h (k:=.i64) (i:=(j:Int)) aa aa;trivial
 have k4:∀h:Hp,ldA h 2 (.dptr ((nth [] lk i).flatMap lkC) (j*2))=some (.agg [I f,I t]):=fun h=>by
  have:=GD lkC KV ((0,0):Lk) (nth [] lk i) h (j:=j) hj;rw[this,hx];rfl
 have c1:∀(h:Hp),ixV h 1 (lst qb ch) (I i)=some (.dptr (ch.map qb) i):=fun h=>qw qb _ h rfl aa
 have c2:∀(h:Hp),ld1 h (.dptr (ch.map qb) i)=some (mat (nth [] ch i)):=fun h=>jO qb [] ch h aa
 have c3:∀(h:Hp),ixV h 1 (lst qb ch) (I ((i:Int)+1))=some (.dptr (ch.map qb) (i+1)):=fun h=>qw qb _ h aa aa
 have c4:∀(h:Hp),ld1 h (.dptr (ch.map qb) (i+1))=some (mat (nth [] ch (i+1))):=fun h=>jO qb [] ch h aa
 have d1:∀(h:Hp),ixV h 1 (mat (nth [] ch i)) (I f)=some (.dptr ((nth [] ch i).map row) f.toNat):=fun h=>uA row _ h a0 aa
 have d2:∀(h:Hp),ld1 h (.dptr ((nth [] ch i).map row) f.toNat)=some (lst di (JK ch i (f,t))):=fun h=>jO row [] _ h aa
 have d3:∀(h:Hp),ixV h 1 (mat (nth [] ch (i+1))) (I t)=some (.dptr ((nth [] ch (i+1)).map row) t.toNat):=fun h=>uA row _ h b0 aa
 have d4:∀(h:Hp),ld1 h (.dptr ((nth [] ch (i+1)).map row) t.toNat)=some (lst di (nu ch i (f,t))):=fun h=>jO row [] _ h aa
 have sm:=ab4 (x:=JK ch i (f,t)) (y:=nu ch i (f,t)) aa aa (fun z hz=>by have:=n2 z hz;omega) (fun z hz=>by have:=n4 z hz;omega);have li:∀H,BS 2 [nPQ] [(0,lst di (JK ch i (f,t))),(1,lst di (nu ch i (f,t)))] H=some ([row (JK ch i (f,t)),row (nu ch i (f,t))],H):=fun H=>acH ..
 generalize JK ch i (f,t)=x at *;generalize nu ch i (f,t)=y at *;simp(disch:=try exact zN)[G3,bx,hgX,k1,k2,k3,k4,c1,c2,c3,c4,d1,d2,d3,d4,li];refine cd (args:=[mat [x,y]]) sm ?_;exact acr ..
@[simp]theorem yJ(h:Hp)(p:LiQ)(ch:List LLQ)(lk:List (List Lk)):AT h (wkC p ch lk)=some (wkC p ch lk,h):=rfl
theorem TR{h:Hp}(hu:(h.all fun x=>gM h.length x.2)=true){l:LiQ}(hl:0<l.length)(hb:l.length<1000000000000):CI Y F.BB [lst di l] h (.new 1 (l.map di) false l.length l.length) h:=by
 refine Ie ?_;simp(disch:=try exact zN)[BB]
 have hli:BS 0 [D.int IntKind.i64 0] [] (h++[(0,Bk.none),(0,Bk.none)])=some ([],h++[(0,Bk.none),(0,Bk.none)]):=by
  simp[BS,cY,eA]
 rw[hli];simp;refine K5 (z:=[]) AF hl mR aa ?_;simp;refine⟨mR,?_,.inr (.inr (.inl ⟨h.length+1,1,l.length,l.length,1,l.map di,false,mR,aa,by simp[aj],rfl⟩))⟩;simp only[Yb,hu,Yv]
 try simp[gM]
def rtH(a b c e:Nat×Bk)(o:LiQ):Hp:=[a,b,c,(1,.data 1 (o.map di) false false),e]
theorem ady{r:LiQ}(hN:r.length<1000000)(hr:bdR 1000000000000 r)(a b c e:Nat×Bk)(h0:Hp)(hh:h0.length=5)(k:KL):∀(q p o1 o2:LiQ),p++q=r->o1.length=p.length->o2.length=q.length->bdR 1000000000000 o2 ->
  k (.exit 2) [] (rtH a b c e (o1++iA o2 q)) ->
  lp (GG (CX Y) (.ref 3 1 0 r.length r.length r.length) (lst di r) (I r.length)) [] h0 [I p.length] (rtH a b c e (o1++o2)) k
 | [],p,o1,o2,ha,h1,h2,_,hk=>by
  have e:p.length=r.length:=by rw[<-ha];simp
  have e2:o2=[]:=by cases o2 with|nil=>rfl|cons _ _=>simp at h2
  subst e2;refine AJ ?_;simp[GG,e]
  simp_all[iA]
 |x::q,p,o1,[],ha,h1,h2,_,hk=>by simp at h2
 | x::q,p,o1,y::o2,ha,h1,h2,hb,hk=>by
  have hl:r.length=p.length+(q.length+1):=by rw[<-ha];simp
  have bx:=hr x (by grind);have bY:=hb y mR;have hol:(o1++y::o2).length=r.length:=by simp at h2 ⊢;omega
  have i1:∀h:Hp,ixV h 1 (lst di r) (I p.length)=some (.dptr (r.map di) p.length):=fun h=>qw di _ h rfl aa
  have i2:∀h:Hp,ld1 h (.dptr (r.map di) p.length)=some (I x):=fun h=>by rw[jO di 0 r h aa,<-ha,nr];rfl
  have i3:ixV (rtH a b c e (o1++y::o2)) 1 (.ref 3 1 0 r.length r.length r.length) (I p.length)=some (.ptr 3 1 p.length r.length):=by
   simp only[ixV,rtH,aj];simp only[List.getElem?_cons_succ,List.getElem?_cons_zero,if_true,List.length_map,hol];rw[if_pos ⟨trivial,aa,aa⟩];simp
  have i4:ld1 (rtH a b c e (o1++y::o2)) (.ptr 3 1 p.length r.length)=some (I y):=by
   simp only[ld1,rtH,aj];simp only[List.getElem?_cons_succ,List.getElem?_cons_zero,if_true,List.length_map,hol];rw[<-h1,X2,List.getElem?_append_right mR];simp
  have i5:∀z:Int,st (rtH a b c e (o1++y::o2)) 1 (.ptr 3 1 p.length r.length) (I z)=some (rtH a b c e (o1++z::o2)):=fun z=>by
   rw[vU];have e1:bB (rtH a b c e (o1++y::o2)) 3 1=.data 1 ((o1++y::o2).map di) false false:=rfl;rw[e1,vf _ _ _ _ _ _ _ _ _ (by rw[List.length_map,hol]) (by grind)];have e2:=L0 di o1 y z o2;rw[h1]at e2
   show some (aM _ 3 1 (.data 1 (((o1++y::o2).map di).set p.length (di z)) false false))=_
   rw[e2];rfl
  have ih:=ady hN hr a b c e h0 hh k q (p++[x]) (o1++[y+x]) o2 (by grind) (by grind) (by grind) (fun z hz=>hb z (by grind)) (by simp_all[iA]);have hre:aL [] 0 h0 (rtH a b c e (o1++(y+x)::o2))=rtH a b c e (o1++(y+x)::o2):=ua 0 h0 _ (by simp[rtH,hh]);have e1:o1++[y+x]++o2=o1++(y+x)::o2:=mR;have e2:((p++[x]).length:Int)=(p.length:Int)+1:=mR;rw[e1,e2]at ih
  have g:(p.length:Int)<r.length:=aa;refine AJ ?_;simp(disch:=try exact zN)[GG,i1,i2,i3,i4,i5,g,hre];exact ih
def rtV(R:LLQ):V:=if R.length=1 then .ref 2 1 0 1 1 1 else .ref 4 1 0 R.length R.length R.length
def rtE(R:LLQ):Nat×Bk:=if R.length=1 then nnQ else(1,.data 1 (R.map row) false false)
def rtA(p:LiQ)(ch:List LLQ)(lk:List (List Lk))(z:LiQ)(R:LLQ)(s3:Nat×Bk):Hp:=[wkB p ch lk,(1,.data 1 (z.map di) true true),(1,.data 1 [row z] true false),s3,rtE R]
theorem ace{lk:List (List Lk)}{z:LiQ}(s3:Nat×Bk)(hz:R0=[]->r=z)(hz2:∀x l,R0++[r]=x::l->True):∃w,ixV (rtA p ch lk z (R0++[r]) s3) 1 (rtV (R0++[r])) (I R0.length)=some w∧ld1 (rtA p ch lk z (R0++[r]) s3) w=some (lst di r):=by
 by_cases h:R0=[]
 .subst h;rw[hz rfl];exact⟨.ptr 2 1 0 1,rfl,rfl⟩
 .have hp:0<R0.length:=Wx.2 h;have h1:¬(R0++[r]).length=1:=by simp;exact h
  refine⟨.ptr 4 1 R0.length (R0++[r]).length,?_,?_⟩
  .grind[rtV,rtA,rtE,ixV,aj]
  .simp only[rtA,rtE,if_neg h1,ld1,aj,List.getElem?_cons_succ,List.getElem?_cons_zero,if_true,List.length_map];simp;rfl
theorem aeu{lk:List (List Lk)}{z:LiQ}(s3:Nat×Bk)(h0:0<R.length)(hz:R.length=1->R=[z])(hb:R.length<1000000)(q:kkQ):
  apV false 4 1 24 (rtV R) (.d (.sl 1 [row r'])) (rtA p ch lk z R s3) q=q (rtV (R++[r'])) (rtA p ch lk z (R++[r']) s3):=by
 by_cases h:R.length=1
 .rw[hz h];rfl
 .have h2:¬(R++[r']).length=1:=by simp;intro e;rw[e]at h0;simp at h0
  have hg:aj (rtA p ch lk z R s3) 4 1=.data 1 (R.map row) false false:=by simp[aj,rtA,rtE,h]
  show apC false 4 1 24 (rtV R) 1 [row r'] (rtA p ch lk z R s3) q=_
  simp only[rtV,if_neg h,if_neg h2];unfold apC;rw[if_neg AF];simp only[hg];rw[if_pos ⟨trivial,mR,Z5 _,mR,rfl⟩,if_neg aa,if_pos aa];simp only[Zt,if_false,Bool.or_self];rw[if_pos ⟨mR,mR⟩];have hne:¬R=[]:=by rintro rfl;simp at h0
  grind[rtA,rtE,aM,Zd]
def rQ(ch:List LLQ)(lk:List (List Lk)):Nat->LiQ->List (List Lk)->LLQ
 |_,r,[]=>[r]
 |i,r,_::q=>r::rQ ch lk (i+1) (iA r (kZ ch lk i 0)) q
def t8(n:Nat)(ch:List LLQ)(lk:List (List Lk)):LLQ:=rQ ch lk 0 (List.replicate n 0) lk
theorem WS(ch:List LLQ)(lk:List (List Lk))(i:Nat)(r:LiQ)(q:List (List Lk)):∃t,rQ ch lk i r q=r::t:=by
 cases q with
 |nil=>exact⟨[],rfl⟩
 |cons l q=>exact⟨_,rfl⟩
theorem N7{B C:Int}:∀{a b:LiQ},bdR B a->bdR C b->bdR (B+C) (iI a b)
 |[],b,_,_=>by simp[iI,bdR]
 |x::a,[],_,_=>by simp[iI,bdR]
 | x::a,y::b,ha,hb=>by
  intro z hz;simp only[iI,List.zip_cons_cons,Z0,Zs]at hz;have h1:=ha x mR;have h2:=hb y mR;rcases hz with rfl|hz
  .omega
  .exact N7 (fun w hw=>ha w (by grind)) (fun w hw=>hb w (by grind)) z hz
theorem gK{B C:Int}:∀{a b:LiQ},bdR B a->bdR C b->bdR (B+C) (iA a b)
 |[],b,_,_=>by simp[iA,bdR]
 |x::a,[],_,_=>by simp[iA,bdR]
 | x::a,y::b,ha,hb=>by
  intro z hz;simp only[iA,List.zip_cons_cons,Z0,Zs]at hz;have h1:=ha x mR;have h2:=hb y mR;rcases hz with rfl|hz
  .omega
  .exact gK (fun w hw=>ha w (by grind)) (fun w hw=>hb w (by grind)) z hz
theorem oY.lead{B:Int}{lk:List (List Lk)}(w:oY n B ch lk)(hi:i<lk.length)(hj:j<(nth [] lk i).length):(kZ ch lk i j).length=n∧bdR (B+B) (kZ ch lk i j):=by obtain⟨_,_,⟨n1,n2⟩,n3,n4⟩:=w.notes hi hj;exact⟨by unfold kZ;rw[SB aa];exact n1,N7 n2 n4⟩
theorem adz{p:LiQ}{n:Nat}{B:Int}{ch:List LLQ}{lk:List (List Lk)}(w:oY n B ch lk)(h0:0<n)(hn:n<1000000)(hB0:0<=B)(hB:B<=1000)(hne:∀l∈lk,0<l.length){z:LiQ}(k:KL):∀(q a:List (List Lk))(R0:LLQ)(r:LiQ),a++q=lk->R0.length=a.length->r.length=n->bdR (2000*a.length) r->(R0=[]->r=z)->(R0.length=0->R0=[])->(∀x l,R0=x::l->x=z) ->
  k (.exit 0) [rtV (R0++rQ ch lk a.length r q)] (rtA p ch lk z (R0++rQ ch lk a.length r q) nnQ) ->
  lp (GH (CX Y) (.ptr 0 1 0 3) (I lk.length)) [3] (rtA p ch lk z [z] nnQ) [rtV (R0++[r]),I a.length] (rtA p ch lk z (R0++[r]) nnQ) k
 | [],a,R0,r,ha,hR,_,_,_,_,_,hk=>by
  have e:a.length=lk.length:=by rw[<-ha];simp
  refine AJ ?_;simp[GH,e];exact hk
 | l::q,a,R0,r,ha,hR,hr,hb,hz,_,hz2,hk=>by
  have hll:lk.length=a.length+(q.length+1):=by rw[<-ha];simp
  have hf:=w.few;have hlen:=w.len;have hal:a.length<lk.length:=aa;have hlj:0<(nth [] lk a.length).length:=by rw[<-ha,nr];exact hne l (by grind)
  obtain⟨m1,m2⟩:=w.lead hal hlj;have ld:=acJ (p:=p) w aa hn hal hlj;generalize hL:kZ ch lk a.length 0=L at *;obtain⟨v,j1,j2⟩:=ace (p:=p) (ch:=ch) (lk:=lk) (z:=z) (r:=r) (R0:=R0) nnQ hz (fun _ _ _=>trivial);rw[hR]at j1;have cl:=TR (h:=rtA p ch lk z (R0++[r]) nnQ) (by simp only[rtA,rtE];split<;>rfl) (l:=r) aa aa
  have g:(a.length:Int)<lk.length:=aa;refine AJ ?_;simp[GH,g,j1,j2];refine EH (CU (e:=0) (b:=.none) cl rfl ?_);have eH:(rtA p ch lk z (R0++[r]) nnQ).set 3 (0+1,.data 1 (r.map di) false false)=rtH (wkB p ch lk) (1,.data 1 (z.map di) true true) (1,.data 1 [row z] true false) (rtE (R0++[r])) r:=rfl;rw[eH]
  have l5:∀b c d o,ldA (rtH (wkB p ch lk) b c d o) 3 (.ptr 0 1 0 3)=some (.agg (wkC p ch lk)):=fun _ _ _ _=>rfl
  simp[l5];refine cd ld ?_;have hLr:L.length=r.length:=aa;have lL:fL (lst di L)=some (I L.length):=rfl;have eR:V.ref 3 1 0 r.length r.length (r.map di).length=V.ref 3 1 0 L.length L.length L.length:=by rw[List.length_map,hLr]
  simp only[eR];simp;have bL:bdR 1000000000000 L:=fun x hx=>by have:=m2 x hx;omega
  have bR:bdR 1000000000000 r:=fun x hx=>by have:=hb x hx;omega
  refine lo (ady aa bL _ _ _ _ _ rfl _ L [] [] r rfl rfl hLr.symm bR ?_);rw[List.nil_append];have ao:(iA r L).length=L.length:=by simp[iA,hLr]
  have li:BS 1 [nPQ] [(0,V.ref 3 1 0 L.length L.length L.length)] (rtH (wkB p ch lk) (1,.data 1 (z.map di) true true) (1,.data 1 [row z] true false) (rtE (R0++[r])) (iA r L))=some ([row (iA r L)],rtA p ch lk z (R0++[r]) (1,.data 1 ((iA r L).map di) false true)):=by
   simp[BS,cY,eA,toD,rtH,aj,aM,ao,row,rtA,Zd]
  simp[li]
  have ap:=aeu (p:=p) (ch:=ch) (lk:=lk) (z:=z) (r':=iA r L) (R:=R0++[r]) (1,.data 1 ((iA r L).map di) false true) mR (fun e=>by
   have:R0=[]:=by simpa using e
   grind) (by grind)
  unfold rh;rw[ap]
  have cl1:∀x:Int,clean [3] [rtV (R0++[r]++[iA r L]),I x] (rtA p ch lk z (R0++[r]++[iA r L]) (1,.data 1 ((iA r L).map di) false true))=true:=fun x=>by
   simp only[rtV,rtA,rtE];split<;>rfl
  have re1:∀s3,aL [3] 0 (rtA p ch lk z [z] nnQ) (rtA p ch lk z (R0++[r]++[iA r L]) s3)=rtA p ch lk z (R0++[r]++[iA r L]) nnQ:=fun _=>rfl
  have g2:biI .add (I a.length) (.d (.int .i64 1))=some (I ((a++[l]).length:Int)):=by
   have:=Wj (a:=(a.length:Int)) (b:=1) aa;rw[show(I 1:V)=.d (.int .i64 1)from rfl]at this;rw[this];simp
  show bnd _ _
  rw[g2];refine⟨cl1 _,?_⟩;rw[re1];have e1:rQ ch lk a.length r (l::q)=r::rQ ch lk (a.length+1) (iA r L) q:=by simp only[rQ,hL]
  rw[e1]at hk
  have bA:bdR (2000*(a++[l]).length) (iA r L):=fun x hx=>by
   have:=gK hb m2 x hx
   grind
  have ih:=adz w h0 hn hB0 hB hne (z:=z) k q (a++[l]) (R0++[r]) (iA r L) (by grind) (by grind) aa bA (fun e=>by grind) (fun e=>by grind) (fun x m e=>by
   cases R0 with
   |nil=>grind
   |cons u v=>grind) (by simpa using hk)
  exact ih
theorem ZZ{B:Int}{lk:List (List Lk)}(w:oY p.length B ch lk)(h0:0<p.length)(hn:p.length<1000000)(hB0:0<=B)(hB:B<=1000)(hne:∀l∈lk,0<l.length):
  CP Y F.Gt [.agg (wkC p ch lk)] (mat (t8 p.length ch lk)):=by
 refine PY ?_;have bx:∀(k:kkQ)(u:PU k),rh (oR 0 (.agg (wkC p ch lk)) [nnQ,nnQ,nnQ,nnQ,nnQ]) k u=k (.ptr 0 1 0 3) [wkB p ch lk,nnQ,nnQ,nnQ,nnQ]:=fun _ _=>rfl
 have f0:∀a b c d:Nat×Bk,ld1 [wkB p ch lk,a,b,c,d] (.ptr 0 1 0 3)=some (lst di p):=fun _ _ _ _=>rfl
 have f2:∀a b c d:Nat×Bk,ld1 [wkB p ch lk,a,b,c,d] (.ptr 0 1 2 3)=some (lst lkD lk):=fun _ _ _ _=>rfl
 simp(disch:=try exact zN)[Gt,bx,f0];obtain⟨z,hz⟩:∃z,z=List.replicate p.length (0:Int):=⟨_,rfl⟩;have zl:z.length=p.length:=by rw[hz];simp
 have ez:List.replicate p.length (D.int IntKind.i64 0)=z.map di:=by rw[hz];simp[di]
 have li:BS 1 [nPQ] [(0,V.ref 1 1 0 p.length p.length p.length)] [wkB p ch lk,(1,Bk.data 1 (z.map di) true false),(0,Bk.none),(0,Bk.none),(0,Bk.none)]=some ([row z],[wkB p ch lk,(1,Bk.data 1 (z.map di) true true),(0,Bk.none),(0,Bk.none),(0,Bk.none)]):=by
  simp[BS,cY,eA,toD,aj,aM,row,zl,Zd]
 rw[ez,li];have f2':ld1 [wkB p ch lk,(1,Bk.data 1 (z.map di) true true),(1,Bk.data 1 [row z] true false),(0,Bk.none),(0,Bk.none)] (.ptr 0 1 2 3)=some (lst lkD lk):=rfl;simp[f2'];have eH:([wkB p ch lk,(1,Bk.data 1 (z.map di) true true),(1,Bk.data 1 [row z] true false),(0,Bk.none),(0,Bk.none)]:Hp)=rtA p ch lk z [z] nnQ:=rfl;rw[eH]
 have z0:bdR (2000*((([]:List (List Lk)).length:Nat):Int)) z:=fun x hx=>by grind
 refine lo (adz w h0 hn hB0 hB hne (z:=z) _ lk [] [] z rfl rfl zl z0 (fun _=>rfl) (fun _=>rfl) (fun _ _ e=>by cases e) ?_);rw[List.nil_append];have er:rQ ch lk ([]:List (List Lk)).length z lk=t8 p.length ch lk:=by rw[hz];rfl
 rw[er];obtain⟨t,ht⟩:=WS ch lk 0 (List.replicate p.length (0:Int)) lk;have hR:t8 p.length ch lk=z::t:=by rw[hz];exact ht
 rw[hR];simp;cases t with
 |nil=>exact⟨_,rfl⟩
 | cons y t=>
  refine⟨[wkB p ch lk,(1,Bk.data 1 (z.map di) true true),(1,Bk.data 1 [row z] true false),(0,Bk.none),(1,.data 1 ((z::y::t).map row) false true)],?_⟩;have h1:¬(z::y::t).length=1:=mR;simp[rtV,rtA,rtE,cX,toD,aj,lst,Zd]
theorem aeO(hp:p.length<1000000000)(hm:m.length<1000000000):CP Y F.H4 [lst di p,mat m] (I (mzB p m)):=by refine TD ?_;simp[H4];refine cd (Gr hp hm) ?_;simp
theorem OU(ch:List LLQ)(lk:List (List Lk)):∀(q:List (List Lk))(i:Nat)(r:LiQ),(rQ ch lk i r q).length=q.length+1
 |[],_,_=>rfl
 |l::q,i,r=>by simp[rQ,OU ch lk q]
theorem abV{B:Int}{lk:List (List Lk)}(w:oY p.length B ch lk)(h0:0<p.length)(hn:p.length<1000000)(hB0:0<=B)(hB:B<=1000)(hne:∀l∈lk,0<l.length)(hd:dcB p ch lk=0)(hf:mzB p (t8 p.length ch lk)=0):
  CP Y F.Eo [.agg (wkC p ch lk)] (.tup [mat (t8 p.length ch lk),I 0]):=by
 refine P0 ?_;have hfew:=w.few;have hlen:=w.len;have dc:=K4 (p:=p) (ch:=ch) (lk:=lk) aa (fun c hc=>by grind[oY.cs]) aa aa (fun l hl=>by grind[oY.ls]);rw[hd]at dc;have rt:=ZZ w h0 hn hB0 hB hne;have rl:(t8 p.length ch lk).length=lk.length+1:=OU ..;have ft:=aeO (p:=p) (m:=t8 p.length ch lk) aa aa;rw[hf]at ft
 have bx:∀(k:kkQ)(u:PU k),rh (oR 0 (.agg (wkC p ch lk)) [nnQ]) k u=k (.ptr 0 1 0 3) [wkB p ch lk]:=fun _ _=>rfl
 have l5:ldA [wkB p ch lk] 3 (.ptr 0 1 0 3)=some (.agg (wkC p ch lk)):=rfl;have f0:ld1 [wkB p ch lk] (.ptr 0 1 0 3)=some (lst di p):=rfl;simp[Eo,bx,l5];refine cd dc ?_;simp[l5];refine cd rt ?_;simp[f0];refine cd ft ?_;simp;simp[AO]
theorem acg{b:Nat}(hb:0<b){x:Q}{a:Int}(h:rp b x a):x=qc a b:=by
 obtain⟨m,hm⟩:=pq h;have p:=h.1.1
 have m0:0<m:=by
  rcases Yz m with e|e
  .grind
  .exact e
 have ha:a=x.1*m:=by
  have h2:=h.2;rw[hm,Int.natCast_mul,<-Int.mul_assoc,Yn]at h2;exact(Int.eq_of_mul_eq_mul_right aa h2).symm
 have hg:Nat.gcd a.natAbs b=m:=by
  rw[ha,hm,Yr,Int.natAbs_natCast,Nat.gcd_mul_right,h.1.2,Xh]
 unfold qc;rw[hg,ha,hm,Int.mul_ediv_cancel _ aa,Nat.mul_div_cancel _ m0]
def szI(b:Nat)(r:LiQ):List Q:=r.map fun a=>qc a b
theorem D6(b:Nat)(r:LiQ):(szI b r).length=r.length:=by simp[szI]
theorem Hd{b:Nat}(hb:0<b):∀r:LiQ,rpl b (szI b r) r
 |[]=>trivial
 |a::r=>⟨Re hb rfl,Hd hb r⟩
theorem KN{b:Nat}(hb:0<b):∀{s:List Q}{r:LiQ},rpl b s r->s=szI b r
 |[],[],_=>rfl
 | x::s,a::r,h=>by
  show x::s=qc a b::szI b r
  rw[<-acg hb h.1,<-KN hb h.2]
 |[],_::_,h=>h.elim
 |_::_,[],h=>h.elim
def bdN(B:Nat)(r:LiQ):Prop:=∀a∈r,a.natAbs<=B
theorem J5{b B:Nat}(hb:0<b)(h1:b<1000000000)(h:bdN B r)(hB:B<1000000000000000000):okS (szI b r):=
 uY hb (Uw (Hd hb r) h) aa aa
theorem H7(z:Int):∀{r:LiQ}{n:Nat},r.length=n->kh z (List.replicate n 0) r=r.map (z * ·)
 |[],n,h=>by subst h;rfl
 |a::r,0,h=>by simp at h
 | a::r,n+1,h=>by
  simp only[List.replicate_succ,kh,Z0,H7 z (r:=r) (n:=n) (by grind),Xt]
theorem Rz(r:LiQ):r.map ((1:Int) * ·)=r:=mR
theorem lN{B C:Nat}:∀{r t:LiQ},bdN B r->bdN C t->bdN (B+C) (kh 1 r t)
 |[],t,_,_=>by intro a h;trivial
 |x::r,[],_,_=>by intro a h;trivial
 | x::r,y::t,hr,ht=>by
  have h1:=hr x mR;have h2:=ht y mR;intro a h;simp only[kh,Zs]at h;rcases h with rfl|h
  .omega
  .exact lN (fun u hu=>hr u (by grind)) (fun u hu=>ht u (by grind)) a h
theorem SX(hp:pcS p){b B C:Nat}(hb:0<b)(hb1:b<1000000000)(lr:r.length=p.length)(lt:t.length=p.length)(hr:bdN B r)(ht:bdN C t)(hB:B<100000000000000000)(hC:C<100000000000000000):
  CP Y F.GB [lst di p,szV (szI b r),szV (szI b t)] (.tup [szV (szI b (kh 1 r t)),I 0]):=by
 obtain⟨hi,h0⟩:=Ei hp;have hN:=hi.2.1
 have e:Hv p.length [szI b r,szI b t] [(1,1),(1,1)]=szI b (kh 1 r t):=by
  have z:=KM b p.length;have s1:=Jb (b:=b) 1 (o:=List.replicate p.length (0,1)) (s:=szI b r) (by rw[Yy,D6,lr]) z (Hd hb r);rw[H7 1 lr,Rz]at s1;have s2:=Jb (b:=b) 1 (s:=szI b t) (by rw[Iy _ _ _ (by rw[Yy,D6,lr]),D6,D6,lr,lt]) s1 (Hd hb t);exact KN hb s2
 have:=acb (s:=szI b r) (t:=szI b t) hp.1 aa (by rw[D6,lr]) (J5 hb hb1 hr aa) (by rw[D6,lt]) (J5 hb hb1 ht aa) (by rw[e];exact J5 hb hb1 (lN hr ht) aa)
 grind
def oW(p r:LiQ):LiQ:=r.map (u5 ((uR r (L5 p)).sign) * ·)
theorem KF(p r:LiQ):(oW p r).length=r.length:=by simp[oW]
theorem od(z:Int):z.sign = -1∨z.sign=0∨z.sign=1:=by grind
theorem oX(z:Int):u5 z.sign=z.sign:=by rcases od z with h|h|h<;>rw[h]<;>rfl
theorem nL{B:Nat}(h:bdN B r):bdN B (oW p r):=by
 intro a ha;obtain⟨x,hx,rfl⟩:=Zi.1 ha;have:=h x hx
 grind[oX]
theorem acy(r:LiQ):ofQ r=szI 1 r:=by
 refine KN (b:=1) AF ?_
 induction r with
 |nil=>trivial
 |cons a r ih=>exact⟨⟨⟨Nat.one_pos,mR⟩,mR⟩,ih⟩
theorem ZP(hp:pcS p)(lr:r.length=p.length)(hr:smR r=true):CP Y F.Ij [lst di p,szV (szI 1 r)] (.tup [szV (szI 1 (oW p r)),I 0]):=by
 obtain⟨hi,h0⟩:=Ei hp;have hN:=hi.2.1;have hb:=aes hr;have ok:=J5 (b:=1) (B:=1000) (r:=r) AF AF hb AF;have sg:=ZL hi (by rw[D6,lr]) (b:=1) AF (Hd (b:=1) AF r) hb AF
 have e:abU p (szI 1 r) (uR r (L5 p)).sign=szI 1 (oW p r):=by
  have z:=KM 1 p.length;have s1:=Jb (b:=1) (u5 (uR r (L5 p)).sign) (o:=List.replicate p.length (0,1)) (s:=szI 1 r) (by rw[Yy,D6,lr]) z (Hd AF r);rw[H7 _ lr]at s1;exact KN AF s1
 have h1:=od (uR r (L5 p));have:=ae2 (s:=szI 1 r) hp.1 aa (by rw[D6,lr]) ok sg aa aa
 grind
theorem aci{b:Nat}{x:Q}{a:Int}(hx:rp b x a)(hw:okQ w):rp (b*w.2) (wm x w) (a*w.1):=by
 refine Re (Yi hx.1.1 hw.1) ?_;have h:=hx.2;rw[Int.natCast_mul,Int.natCast_mul]
 calc x.1*w.1*((b:Int)*(w.2:Int))=x.1*(b:Int)*(w.1*(w.2:Int)):=by ac_rfl
  _=a*(x.2:Int)*(w.1*(w.2:Int)):=by rw[h]
  _=a*w.1*((x.2:Int)*(w.2:Int)):=by ac_rfl
theorem OV{b:Nat}{w:Q}(hw:okQ w):∀{o s:List Q}{r:LiQ},o=List.replicate s.length (0,1)->rpl b s r->rpl (b*w.2) (xq w o s) (r.map (· * w.1))
 |_,[],[],ho,_=>by subst ho;trivial
 | _,x::s,a::r,ho,h=>by
  subst ho;rw[List.length_cons,List.replicate_succ];have:=ZW (Vx (b*w.2)) (aci h.1 hw);rw[Xt]at this;exact⟨this,OV hw rfl h.2⟩
 |_,[],_::_,_,h=>h.elim
 |_,_::_,[],_,h=>h.elim
theorem Uv(hp:pcS p)(hw:okQ w)(w1:w.1.natAbs<1000000)(w2:w.2<1000000){B:Nat}(lr:r.length=p.length)(hr:bdN B r)(hB:B<1000000):
  CP Y F.F8 [lst di p,szV (szI 1 r),.agg (qT w)] (.tup [szV (szI w.2 (r.map (· * w.1))),I 0]):=by
 obtain⟨hi,h0⟩:=Ei hp;have hN:=hi.2.1
 have e:Hv p.length [szI 1 r] [w]=szI w.2 (r.map (· * w.1)):=by
  have s1:=OV (b:=1) hw (o:=List.replicate p.length (0,1)) (s:=szI 1 r) (by rw[D6,lr]) (Hd AF r);rw[Xh]at s1;exact KN hw.1 s1
 have bm:bdN (B*1000000) (r.map (· * w.1)):=by
  intro a ha;obtain⟨x,hx,rfl⟩:=Zi.1 ha;have:=hr x hx;rw[Yr];exact Yw this aa
 have hq:qL 30 w:=⟨jK (d:=30) aa AF,jK (d:=30) aa AF⟩;have:=ZN (s:=szI 1 r) (k:=w) hp.1 aa (by rw[D6,lr]) (J5 AF AF hr aa) ⟨hw,hq⟩ (by rw[e];exact J5 hw.1 aa bm aa)
 grind
structure Ad where
 p:LiQ
 ch:List LLQ
 lk:List (List Lk)
 cd:List LLQ
 w:Q
def adC(a:Ad):LwQ:=[lst di a.p,lst qb a.ch,lst lkD a.lk,lst qb a.cd,S (itoa a.w.1),S (AI a.w.2)]
def adB(a:Ad):Nat×Bk:=(1,.vars (adC a))
@[simp]theorem yL(h:Hp)(a:Ad):AT h (adC a)=some (adC a,h):=rfl
structure dX(a:Ad):Prop where
 hp:pcS a.p
 wk:oY a.p.length 8 a.ch a.lk
 lkn:∀l∈a.lk,0<l.length
 cne:∀c∈a.ch,0<c.length
 five:a.ch.length<=5
 cl:a.cd.length=a.ch.length
 cn:∀l∈a.cd,0<l.length∧l.length<=20
 cr:∀l∈a.cd,∀r∈l,r.length=a.p.length∧bdR 8 r
 w0:okQ a.w∧0<=a.w.1∧a.w.1<=1000∧a.w.2<=1000
theorem N8(h:bdR 1000 r):smR r=true:=by simp only[smR,Z3,Z7,decide_eq_true_eq];trivial
theorem Dw{B:Int}(h:bdR B r)(hc:B<=C):bdR C r:=fun x hx=>by have:=h x hx;omega
theorem tK{B:Nat}(h:bdR B r):bdN B r:=fun x hx=>by have:=h x hx;omega
variable{a:Ad}
theorem PG(s:Nat)(h h':Hp)(hh:(match h[s]? with|some (e,_)=>h.set s (e+1,.vars (adC a))|none=>h)=h'){e:Nat}{b:Bk}(hs:h[s]?=some (e,b))(k:kkQ)(u:PU k):rh (oR s (.agg (adC a)) h) k u=k (.ptr s (e+1) 0 6) h':=by simp_all[adC]
theorem Mi(G:dX a)(lr:r.length=a.p.length)(hr:bdR 1000 r):CP Y F.B6 [.agg (adC a),lst di r] (.tup [szV (szI 1 (oW a.p r)),I 0]):=by
 refine JH ?_;obtain⟨hi,h0⟩:=Ei G.hp;have hN:=hi.2.1;have sm:=N8 hr;have mc:=Mf (p:=a.p) (r:=r) aa;rw[Rv G.hp.1 lr sm]at mc;have so:=aet (r:=r) G.hp.1 aa lr sm;rw[acy]at so;have sa:=ZP G.hp lr sm;have f0:ld1 [adB a] (.ptr 0 1 0 6)=some (lst di a.p):=rfl;simp[B6,PG (a:=a) 0 [nnQ] [adB a] rfl rfl,f0]
 refine cd mc ?_;simp[f0];refine cd so ?_;simp[f0];refine cd sa ?_ (by rfl);simp;simp[AO,OH]
def rW(a:Ad)(i k:Nat):LiQ:=(oW a.p (nth [] (nth [] a.cd i) k)).map (· * a.w.1)
theorem dX.cand(G:dX a)(hi:i<a.cd.length)(hk:k<(nth [] a.cd i).length):(nth [] (nth [] a.cd i) k).length=a.p.length∧bdR 8 (nth [] (nth [] a.cd i) k):=
 G.cr _ (BD hi) _ (BD hk)
theorem aez(G:dX a)(hi:i<a.cd.length)(hk:k<(nth [] a.cd i).length):CP Y F.Da [.agg (adC a),I i,I k] (.tup [szV (szI a.w.2 (rW a i k)),I 0]):=by
 refine Nn ?_;obtain⟨c1,c2⟩:=G.cand hi hk;have mg:=Mi G c1 (Dw c2 aa);obtain⟨w1,w2,w3,w4⟩:=G.w0;have sc:=Uv G.hp w1 aa aa (r:=oW a.p (nth [] (nth [] a.cd i) k)) (by rw[KF,c1]) (nL (tK (B:=8) c2)) AF;have f0:ld1 [adB a] (.ptr 0 1 0 6)=some (lst di a.p):=rfl
 have f3:ld1 [adB a] (.ptr 0 1 3 6)=some (lst qb a.cd):=rfl;have l6:ldA [adB a] 6 (.ptr 0 1 0 6)=some (.agg (adC a)):=rfl;have lw:ldA [adB a] 2 (.ptr 0 1 4 6)=some (.agg (qT a.w)):=rfl;have c1:∀(h:Hp),ixV h 1 (lst qb a.cd) (I i)=some (.dptr (a.cd.map qb) i):=fun h=>qw qb _ h rfl hi
 have c2:∀(h:Hp),ld1 h (.dptr (a.cd.map qb) i)=some (mat (nth [] a.cd i)):=fun h=>jO qb [] a.cd h hi
 have d1:∀(h:Hp),ixV h 1 (mat (nth [] a.cd i)) (I k)=some (.dptr ((nth [] a.cd i).map row) k):=fun h=>qw row _ h rfl hk
 have d2:∀(h:Hp),ld1 h (.dptr ((nth [] a.cd i).map row) k)=some (lst di (nth [] (nth [] a.cd i) k)):=fun h=>jO row [] _ h hk
 simp[Da,PG (a:=a) 0 [nnQ] [adB a] rfl rfl,l6,f3,c1,c2,d1,d2];refine cd mg ?_;simp[f0,lw];refine cd sc ?_ (by rfl);simp;exact AO (OH _ _) rfl
def IP(a:Ad):LLQ:=t8 a.p.length a.ch a.lk
def shR(a:Ad)(i k:Nat):LiQ:=iA (nth [] (IP a) i) (nth [] (nth [] a.cd i) k)
theorem jw(h:t.length=r.length):(iA r t).length=r.length:=by simp[iA,h]
theorem m5{n:Nat}{ch:List LLQ}{lk:List (List Lk)}(w:oY n 8 ch lk)(hne:∀l∈lk,0<l.length):∀(q d:List (List Lk))(r:LiQ),d++q=lk->r.length=n->bdR (16*d.length) r->∀j,j<=q.length->(nth [] (rQ ch lk d.length r q) j).length=n∧bdR (16*(d.length+j:Nat)) (nth [] (rQ ch lk d.length r q) j)
 | [],d,r,hd,hr,hb,j,hj=>by
  have:j=0:=by simpa using hj
  subst this;trivial
 |l::q,d,r,hd,hr,hb,0,hj=>⟨hr,hb⟩
 | l::q,d,r,hd,hr,hb,j+1,hj=>by
  have hdl:d.length<lk.length:=by rw[<-hd];simp
  have hlj:0<(nth [] lk d.length).length:=by rw[<-hd,nr];exact hne l (by grind)
  obtain⟨m1,m2⟩:=w.lead hdl hlj;have ih:=m5 w hne q (d++[l]) (iA r (kZ ch lk d.length 0)) (by grind) (by rw[jw aa,hr]) (Dw (gK hb m2) (by grind)) j (by grind);have e:(d++[l]).length=d.length+1:=mR;rw[e]at ih;have e2:d.length+1+j=d.length+(j+1):=aa;rw[e2]at ih;exact ih
theorem dX.root(G:dX a)(hi:i<a.cd.length):(nth [] (IP a) i).length=a.p.length∧bdR 64 (nth [] (IP a) i):=by
 have hl:=G.wk.len;have hc:=G.cl;have h5:=G.five;obtain⟨h1,h2⟩:=m5 G.wk G.lkn a.lk [] (List.replicate a.p.length 0) rfl mR (fun x hx=>by grind) i aa;refine⟨h1,Dw h2 ?_⟩
 grind
theorem Vw(a:Ad):(IP a).length=a.lk.length+1:=OU ..
theorem dX.shift(G:dX a)(hi:i<a.cd.length)(hk:k<(nth [] a.cd i).length):(shR a i k).length=a.p.length∧bdR 72 (shR a i k):=by obtain⟨h1,h2⟩:=G.root hi;obtain⟨c1,c2⟩:=G.cand hi hk;exact⟨by unfold shR;rw[jw aa,h1],gK (B:=64) (C:=8) h2 c2⟩
theorem aah(hl:r.length<=64)(h:bdR 1000 r):rcB r=0:=by refine Kl.2 ⟨hl,fun x hx=>MX.2 ?_⟩;have:=h x hx;omega
theorem Ri(G:dX a)(hi:i<a.cd.length)(hk:k<(nth [] a.cd i).length):CP Y F.CR [.agg (adC a),mat (IP a),I i,I k] (.tup [lst di (shR a i k),I 0]):=by
 refine MD ?_;obtain⟨hin,h0⟩:=Ei G.hp;have hN:=hin.2.1;have hl:=G.wk.len;have hc:=G.cl;obtain⟨r1,r2⟩:=G.root hi;obtain⟨c1,c2⟩:=G.cand hi hk;obtain⟨s1,s2⟩:=G.shift hi hk;have ra:=WU (aah aa (Dw r2 aa)) (aah aa (Dw c2 aa)) aa (aah (r:=shR a i k) aa (Dw s2 aa))
 have mc:=Mf (p:=a.p) (r:=shR a i k) aa;rw[Rv G.hp.1 s1 (N8 (Dw s2 aa))]at mc;have f0:ld1 [adB a] (.ptr 0 1 0 6)=some (lst di a.p):=rfl;have f3:ld1 [adB a] (.ptr 0 1 3 6)=some (lst qb a.cd):=rfl;have rl:=Vw a;have e1:∀(h:Hp),ixV h 1 (mat (IP a)) (I i)=some (.dptr ((IP a).map row) i):=fun h=>qw row _ h rfl aa
 have e2:∀(h:Hp),ld1 h (.dptr ((IP a).map row) i)=some (lst di (nth [] (IP a) i)):=fun h=>jO row [] _ h aa
 have c1:∀(h:Hp),ixV h 1 (lst qb a.cd) (I i)=some (.dptr (a.cd.map qb) i):=fun h=>qw qb _ h rfl hi
 have c2:∀(h:Hp),ld1 h (.dptr (a.cd.map qb) i)=some (mat (nth [] a.cd i)):=fun h=>jO qb [] a.cd h hi
 have d1:∀(h:Hp),ixV h 1 (mat (nth [] a.cd i)) (I k)=some (.dptr ((nth [] a.cd i).map row) k):=fun h=>qw row _ h rfl hk
 have d2:∀(h:Hp),ld1 h (.dptr ((nth [] a.cd i).map row) k)=some (lst di (nth [] (nth [] a.cd i) k)):=fun h=>jO row [] _ h hk
 simp[CR,PG (a:=a) 0 [nnQ] [adB a] rfl rfl,f3,e1,e2,c1,c2,d1,d2];refine cd ra ?_;simp[f0];refine cd mc ?_;simp;exact AO rfl rfl
def mvR(to y fr x:LiQ):LiQ:=iI (iI (iA to y) fr) x
theorem U8(f:Int×Int->Int):∀{a b:LiQ}{k:Nat},a.length=b.length->k<a.length->nth 0 ((a.zip b).map f) k=f (nth 0 a k,nth 0 b k)
 |x::a,y::b,0,_,_=>rfl
 | x::a,y::b,k+1,h,hk=>by
  simp_all[nth]
 |[],_,_,_,hk=>by simp at hk
 |_::_,[],_,h,_=>by simp at h
theorem abS{a b:LiQ}(h:a.length=b.length)(hk:k<a.length):nth 0 (iA a b) k=nth 0 a k+nth 0 b k:=U8 _ h hk
theorem SA{a b:LiQ}(h:a.length=b.length)(hk:k<a.length):nth 0 (iI a b) k=nth 0 a k-nth 0 b k:=U8 _ h hk
theorem Oh{x:LiQ}(h1:to.length=n)(h2:y.length=n)(h3:fr.length=n)(h4:x.length=n):(mvR to y fr x).length=n:=by grind[mvR,iI,iA]
theorem acC{x:LiQ}(h1:to.length=n)(h2:y.length=n)(h3:fr.length=n)(h4:x.length=n)(hk:k<n):nth 0 (mvR to y fr x) k=nth 0 to k+nth 0 y k-nth 0 fr k-nth 0 x k:=by
 have e1:(iA to y).length=n:=by simp[iA,h1,h2]
 have e2:(iI (iA to y) fr).length=n:=by simp[iI,e1,h3]
 unfold mvR;rw[SA aa aa,SA aa aa,abS aa aa]
theorem YQ{l:LiQ}(h:k<l.length):l.take (k+1)=l.take k++[nth 0 l k]:=by grind[W4,dM]
def Ns:Acc:=⟨4,0,1,.none⟩
def mvH(a:Ad)(b s2:Nat×Bk)(d:Nat×Bk)(R:LLQ):Hp:=[adB a,b,s2,d,Ns.b R.length (R.map row)]
def dB(d:LiQ):Nat×Bk:=(1,.data 1 (d.map di) true false)
theorem adK{a:Ad}{n:Nat}(hn:n<1000000){to y fr x:LiQ}(l1:to.length=n)(l2:y.length=n)(l3:fr.length=n)(l4:x.length=n)(b1:bdR 1000 to)(b2:bdR 1000 y)(b3:bdR 1000 fr)(b4:bdR 1000 x)(b s2:Nat×Bk)(R:LLQ)(h0:Hp)(hh:h0.length=5)(K:KL) :
  ∀(m k:Nat),k+m=n->K (.exit 2) [] (mvH a b s2 (dB (mvR to y fr x)) R) ->
  lp (EC (CX Y) (lst di fr) (lst di to) (lst di x) (lst di y) (.ref 3 1 0 n n n) (I n)) [] h0 [I k] (mvH a b s2 (dB ((mvR to y fr x).take k++List.replicate m 0)) R) K
 | 0,k,hk,hK=>by
  have e:k=n:=aa;subst e;rw[Zd (by simp_all[Oh]),List.replicate_zero,Yf];refine AJ ?_;simp[EC];exact hK
 | m+1,k,hk,hK=>by
  have hkn:k<n:=aa;have ml:=Oh l1 l2 l3 l4;have mn:=acC l1 l2 l3 l4 hkn;have ih:=adK (a:=a) hn l1 l2 l3 l4 b1 b2 b3 b4 b s2 R h0 hh K m (k+1) aa hK;generalize hM:mvR to y fr x=M at *;have q1:=b1 _ (BD (d:=0) (l:=to) (i:=k) aa);have q2:=b2 _ (BD (d:=0) (l:=y) (i:=k) aa);have q3:=b3 _ (BD (d:=0) (l:=fr) (i:=k) aa)
  have q4:=b4 _ (BD (d:=0) (l:=x) (i:=k) aa);have i1:∀(l:LiQ),l.length=n->∀h:Hp,ixV h 1 (lst di l) (I k)=some (.dptr (l.map di) k):=fun l hl h=>qw di _ h rfl aa
  have i2:∀(l:LiQ),l.length=n->∀h:Hp,ld1 h (.dptr (l.map di) k)=some (I (nth 0 l k)):=fun l hl h=>jO di 0 l h aa
  have x1:=i1 to l1;have x2:=i2 to l1;have y1:=i1 y l2;have y2:=i2 y l2;have z1:=i1 fr l3;have z2:=i2 fr l3;have u1:=i1 x l4;have u2:=i2 x l4;have tl:(M.take k).length=k:=by rw[Zz];omega
  have hol:(M.take k++List.replicate (m+1) (0:Int)).length=n:=by simp;omega
  have i3:ixV (mvH a b s2 (dB (M.take k++List.replicate (m+1) 0)) R) 1 (.ref 3 1 0 n n n) (I k)=some (.ptr 3 1 k n):=by
   simp only[ixV,mvH,dB,aj];simp only[List.getElem?_cons_succ,List.getElem?_cons_zero,if_true,List.length_map,hol];rw[if_pos ⟨trivial,aa,aa⟩];simp
  have i5:∀z:Int,st (mvH a b s2 (dB (M.take k++List.replicate (m+1) 0)) R) 1 (.ptr 3 1 k n) (I z)=some (mvH a b s2 (dB (M.take k++z::List.replicate m 0)) R):=fun z=>by
   rw[vU];have e1:bB (mvH a b s2 (dB (M.take k++List.replicate (m+1) 0)) R) 3 1=.data 1 ((M.take k++List.replicate (m+1) 0).map di) true false:=rfl;rw[e1,vf _ _ _ _ _ _ _ _ _ (by rw[List.length_map,hol]) (by grind)];have e2:=L0 di (M.take k) 0 z (List.replicate m 0);rw[tl]at e2
   show some (aM _ 3 1 (.data 1 (((M.take k++0::List.replicate m 0).map di).set k (di z)) true false))=_
   rw[e2];rfl
  have tk:=YQ (l:=M) (k:=k) aa;rw[mn]at tk;rw[tk]at ih;have e1:M.take k++[nth 0 to k+nth 0 y k-nth 0 fr k-nth 0 x k]++List.replicate m 0=M.take k++(nth 0 to k+nth 0 y k-nth 0 fr k-nth 0 x k)::List.replicate m 0:=mR;rw[e1]at ih;have hre:∀d,aL [] 0 h0 (mvH a b s2 d R)=mvH a b s2 d R:=fun d=>ua 0 h0 _ (by simp[mvH,hh])
  have g:(k:Int)<n:=aa;have e2:((k+1:Nat):Int)=(k:Int)+1:=mR;rw[e2]at ih;generalize nth 0 to k=v1 at *;generalize nth 0 y k=v2 at *;generalize nth 0 fr k=v3 at *;generalize nth 0 x k=v4 at *;refine AJ ?_;simp(disch:=try exact zN)[EC,g,x1,x2,y1,y2,z1,z2,u1,u2,i3,i5,hre];exact ih
def wM(a:Ad)(i f t:Nat)(x:Lk):LiQ:=mvR (shR a (i+1) t) (nu a.ch i x) (shR a i f) (JK a.ch i x)
theorem ut{A B D:Int}{x:LiQ}(b1:bdR A to)(b2:bdR B y)(b3:bdR C fr)(b4:bdR D x):bdR (A+B+C+D) (mvR to y fr x):=N7 (N7 (gK b1 b2) b3) b4
def fB(f t:Nat):Nat×Bk:=(1,.vars [I (f:Int),I (t:Int)])
theorem adL{a:Ad}(G:dX a){i f t:Nat}(hi:i<a.lk.length)(hf:f<(nth [] a.cd i).length)(ht:t<(nth [] a.cd (i+1)).length)(h0:Hp)(h0e:h0=mvH a (fB f t) nnQ nnQ [])(K:KL):∀(q l:List Lk),l++q=nth [] a.lk i ->
  K (.exit 0) [Ns.v (nth [] a.lk i).length (((nth [] a.lk i).map (wM a i f t)).map row)] (mvH a (fB f t) nnQ nnQ ((nth [] a.lk i).map (wM a i f t))) ->
  lp (ED (CX Y) (I i) (.ptr 0 1 0 6) (lst di (shR a i f)) (lst di (shR a (i+1) t)) (.d (lkD (nth [] a.lk i))) (I (nth [] a.lk i).length)) [2,3] h0 [Ns.v l.length ((l.map (wM a i f t)).map row),I l.length] (mvH a (fB f t) nnQ nnQ (l.map (wM a i f t))) K
 | [],l,hl,hK=>by
  have e:l=nth [] a.lk i:=by simpa using hl
  refine AJ ?_;rw[e];generalize(nth [] a.lk i).map (wM a i f t)=R at *;simp[ED];exact hK
 | z::q,l,hl,hK=>by
  have hll:(nth [] a.lk i).length=l.length+(q.length+1):=by rw[<-hl];simp
  have hlen:=G.wk.len;have hfew:=G.wk.few;have hls:=G.wk.ls _ (BD (d:=[]) hi);obtain⟨hin,hp0⟩:=Ei G.hp;have hN:=hin.2.1;have hcl:=G.cl;have hz:nth (0,0) (nth [] a.lk i) l.length=z:=by rw[<-hl,nr]
  obtain⟨⟨a0,a1⟩,⟨b0,b1⟩,⟨n1,n2⟩,n3,n4⟩:=G.wk.notes hi (j:=l.length) aa;rw[hz]at a0 a1 b0 b1 n1 n2 n3 n4;obtain⟨s1,s2⟩:=G.shift (i:=i) (k:=f) aa hf;obtain⟨t1,t2⟩:=G.shift (i:=i+1) (k:=t) aa ht;obtain⟨M,hM⟩:=nmQ (wM a i f t z);have hM':mvR (shR a (i+1) t) (nu a.ch i z) (shR a i f) (JK a.ch i z)=M:=hM.symm
  have Ml:M.length=a.p.length:=by rw[<-hM'];exact Oh t1 n3 s1 n1
  have Mb:bdR 160 M:=by rw[<-hM'];exact ut (A:=72) (B:=8) (C:=72) (D:=8) t2 n4 s2 n2
  have mc:=Mf (p:=a.p) (r:=M) aa;rw[Rv G.hp.1 Ml (N8 (Dw Mb aa))]at mc;obtain⟨x,y⟩:=z;simp only at a0 a1 b0 b1
  have i1:∀h:Hp,ixV h 2 (.d (lkD (nth [] a.lk i))) (I l.length)=some (.dptr ((nth [] a.lk i).flatMap lkC) (l.length*2)):=fun h=>by
   have:=GE lkC KV (nth [] a.lk i) h (k:=.i64) (i:=(l.length:Int)) aa aa;trivial
  have i2:∀h:Hp,ldA h 2 (.dptr ((nth [] a.lk i).flatMap lkC) (l.length*2))=some (.agg [I x,I y]):=fun h=>by
   have:=GD lkC KV ((0,0):Lk) (nth [] a.lk i) h (j:=l.length) aa;rw[this,hz];rfl
  have f1:∀(b s2 d e:Nat×Bk),bB [adB a,b,s2,d,e] 0 1=.vars (adC a):=fun _ _ _ _=>rfl
  have f2:∀(b s2 d e:Nat×Bk),ld1 [adB a,b,s2,d,e] (.ptr 0 1 1 6)=some (lst qb a.ch):=fun _ _ _ _=>rfl
  have f0:∀(b s2 d e:Nat×Bk),ld1 [adB a,b,s2,d,e] (.ptr 0 1 0 6)=some (lst di a.p):=fun _ _ _ _=>rfl
  have c1:∀(h:Hp),ixV h 1 (lst qb a.ch) (I i)=some (.dptr (a.ch.map qb) i):=fun h=>qw qb _ h rfl aa
  have c2:∀(h:Hp),ld1 h (.dptr (a.ch.map qb) i)=some (mat (nth [] a.ch i)):=fun h=>jO qb [] a.ch h aa
  have c3:∀(h:Hp),ixV h 1 (lst qb a.ch) (I ((i:Int)+1))=some (.dptr (a.ch.map qb) (i+1)):=fun h=>qw qb _ h aa aa
  have c4:∀(h:Hp),ld1 h (.dptr (a.ch.map qb) (i+1))=some (mat (nth [] a.ch (i+1))):=fun h=>jO qb [] a.ch h aa
  have d1:∀(h:Hp),ixV h 1 (mat (nth [] a.ch i)) (I x)=some (.dptr ((nth [] a.ch i).map row) x.toNat):=fun h=>uA row _ h a0 aa
  have d2:∀(h:Hp),ld1 h (.dptr ((nth [] a.ch i).map row) x.toNat)=some (lst di (JK a.ch i (x,y))):=fun h=>jO row [] _ h aa
  have d3:∀(h:Hp),ixV h 1 (mat (nth [] a.ch (i+1))) (I y)=some (.dptr ((nth [] a.ch (i+1)).map row) y.toNat):=fun h=>uA row _ h b0 aa
  have d4:∀(h:Hp),ld1 h (.dptr ((nth [] a.ch (i+1)).map row) y.toNat)=some (lst di (nu a.ch i (x,y))):=fun h=>jO row [] _ h aa
  refine AJ ?_;obtain⟨R,hR⟩:=nmQ (l.map (wM a i f t));have hRl:R.length=l.length:=by rw[hR];simp
  rw[<-hR];simp only[mvH];simp(disch:=try exact zN)[ED,i1,i2,f2,c1,c2,c3,c4,d1,d2,d3,d4];rw[n1]
  have eH:([adB a,fB f t,(1,Bk.vars [I x,I y]),(1,Bk.data 1 (List.replicate a.p.length (D.int IntKind.i64 0)) true false),Ns.b R.length (R.map row)]:Hp)=mvH a (fB f t) (1,.vars [I x,I y]) (dB ((mvR (shR a (i+1) t) (nu a.ch i (x,y)) (shR a i f) (JK a.ch i (x,y))).take 0++List.replicate a.p.length 0)) R:=by simp[mvH,dB,di]
  rw[eH];refine lo (adK (a:=a) (n:=a.p.length) aa t1 n3 s1 n1 (Dw t2 aa) (Dw n4 aa) (Dw s2 aa) (Dw n2 aa) (fB f t) (1,.vars [I x,I y]) R _ rfl _ a.p.length 0 aa ?_);rw[hM']
  have hgX:bB (mvH a (fB f t) (1,.vars [I x,I y]) (dB M) R) 0 1=.vars [lst di a.p,lst qb a.ch,lst lkD a.lk,lst qb a.cd,S (itoa a.w.1),S (AI a.w.2)]:=rfl
  have sn:AT (mvH a (fB f t) (1,.vars [I x,I y]) (dB M) R) [lst di a.p,.ref 3 1 0 a.p.length a.p.length a.p.length]=some ([lst di a.p,lst di M],mvH a (fB f t) (1,.vars [I x,I y]) (1,.data 1 (M.map di) true true) R):=by
   simp[AT,cX,toD,mvH,dB,aj,aM,lst,Ml,Zd]
  have li:BS 1 [nPQ] [(0,V.ref 3 1 0 a.p.length a.p.length a.p.length)] (mvH a (fB f t) (1,.vars [I x,I y]) (dB M) R)=some ([row M],mvH a (fB f t) (1,.vars [I x,I y]) (1,.data 1 (M.map di) true true) R):=by
   simp[BS,cY,eA,toD,mvH,dB,aj,aM,row,Ml,Zd]
  simp[hgX];refine cdz sn mc ?_;rw[show cj (I 0)=true from rfl,if_pos rfl];simp[li];refine D7 Ns (L:=l.length) (k:=1) (cells:=R.map row) (cs:=[row M]) aa (by rw[<-hRl];rfl) (by grind[Ns]) rfl rfl (fun t e=>by cases e) aa AF ?_
  have g2:biI .add (I l.length) (.d (.int .i64 1))=some (I ((l++[(x,y)]).length:Int)):=by
   have:=Wj (a:=(l.length:Int)) (b:=1) aa;rw[show(I 1:V)=.d (.int .i64 1)from rfl]at this;rw[this];simp
  show bnd _ _
  rw[g2];have eR:(l++[(x,y)]).map (wM a i f t)=R++[M]:=by rw[X2,<-hR,hM];rfl
  have ih:=adL G hi hf ht h0 h0e K q (l++[(x,y)]) (by grind) hK;rw[eR]at ih
  have eS:(mvH a (fB f t) (1,.vars [I x,I y]) (1,.data 1 (M.map di) true true) R).set Ns.s (Ns.b (l.length+1) (R.map row++[row M]))=mvH a (fB f t) (1,.vars [I x,I y]) (1,.data 1 (M.map di) true true) (R++[M]):=by
   rw[<-hRl];simp[mvH,Ns]
  rw[eS]
  have cl1:clean [2,3] [Ns.v (l.length+1) (R.map row++[row M]),I ((l++[(x,y)]).length:Int)] (mvH a (fB f t) (1,.vars [I x,I y]) (1,.data 1 (M.map di) true true) (R++[M]))=true:=by
   simp[mvH,clean,dp,E4,Acc.v,Acc.b,Ns,d9,jF,offB,adB,adC,fB];exact⟨⟨rfl,rfl⟩,rfl,rfl,rfl,rfl⟩
  refine⟨cl1,?_⟩
  have re1:aL [2,3] 0 h0 (mvH a (fB f t) (1,.vars [I x,I y]) (1,.data 1 (M.map di) true true) (R++[M]))=mvH a (fB f t) nnQ nnQ (R++[M]):=by
   rw[h0e];rfl
  grind
theorem Tj{a:Ad}(G:dX a){t:Nat}(hi:i<a.lk.length)(hf:f<(nth [] a.cd i).length)(ht:t<(nth [] a.cd (i+1)).length):
  CP Y F.BN [.agg (adC a),mat (IP a),I i,.agg [I f,I t]] (.tup [mat ((nth [] a.lk i).map (wM a i f t)),I 0]):=by
 refine LH ?_;have hlen:=G.wk.len;have hfew:=G.wk.few;have hcl:=G.cl;have r1:=Ri G (i:=i) (k:=f) aa hf;have r2:=Ri G (i:=i+1) (k:=t) aa ht;have ei:((i+1:Nat):Int)=(i:Int)+1:=mR;rw[ei]at r2;have bx:=PG (a:=a) 0 [nnQ,nnQ,nnQ,nnQ,nnQ] [adB a,nnQ,nnQ,nnQ,nnQ] rfl rfl
 have l6:ldA [adB a,fB f t,nnQ,nnQ,nnQ] 6 (.ptr 0 1 0 6)=some (.agg (adC a)):=rfl;have f2:ld1 [adB a,fB f t,nnQ,nnQ,nnQ] (.ptr 0 1 2 6)=some (lst lkD a.lk):=rfl;have g0:ld1 [adB a,fB f t,nnQ,nnQ,nnQ] (.ptr 1 1 0 2)=some (I f):=rfl;have g1:ld1 [adB a,fB f t,nnQ,nnQ,nnQ] (.ptr 1 1 1 2)=some (I t):=rfl
 have bl:∀(k:kkQ)(u:PU k),rh (oR 1 (.agg [I f,I t]) [adB a,nnQ,nnQ,nnQ,nnQ]) k u=k (.ptr 1 1 0 2) [adB a,fB f t,nnQ,nnQ,nnQ]:=fun _ _=>rfl
 have k1:∀h:Hp,ixV h 1 (lst lkD a.lk) (I i)=some (.dptr (a.lk.map lkD) i):=fun h=>qw lkD _ h rfl hi
 have k2:∀h:Hp,ld1 h (.dptr (a.lk.map lkD) i)=some (.d (lkD (nth [] a.lk i))):=fun h=>jO lkD [] a.lk h hi
 simp[BN,bx,bl,l6,g0];refine cd r1 ?_;simp(disch:=try exact zN)[l6,g1];refine cd r2 ?_;simp[f2,k1,k2];have eH:([adB a,fB f t,nnQ,nnQ,nnQ]:Hp)=mvH a (fB f t) nnQ nnQ []:=rfl;rw[eH];refine lo (adL G hi hf ht _ rfl _ (nth [] a.lk i) [] rfl ?_);have hRl:((nth [] a.lk i).map (wM a i f t)).length=(nth [] a.lk i).length:=mR
 rw[<-hRl];generalize(nth [] a.lk i).map (wM a i f t)=R at *;obtain⟨h',q1,_⟩:=KE Ns (L:=R.length) (cells:=R.map row) (h:=mvH a (fB f t) nnQ nnQ R) rfl (by simp[Ns]);simp;exact AO q1 rfl
def stepG(p:LiQ):LiQ->LLQ->LiQ
 |v,[]=>v
 |v,d::q=>stepG p (kh 1 v (oW p d)) q
def qa(a:Ad)(i f t:Nat):LLQ:=(nth [] a.lk i).map (wM a i f t)
def Qp(a:Ad)(i f t:Nat):LiQ:=stepG a.p (List.replicate a.p.length 0) (qa a i f t)
theorem dX.move{a:Ad}(G:dX a){t:Nat}(hi:i<a.lk.length)(hf:f<(nth [] a.cd i).length)(ht:t<(nth [] a.cd (i+1)).length):∀d∈qa a i f t,d.length=a.p.length∧bdR 160 d:=by intro d hd;obtain⟨x,hx,rfl⟩:=Zi.1 hd;obtain⟨j,hj,rfl⟩:=Xe hx;have hlen:=G.wk.len;have hcl:=G.cl;obtain⟨_,_,⟨n1,n2⟩,n3,n4⟩:=G.wk.notes hi hj;rw[dM _ _ _ hj]at n1 n2 n3 n4;obtain⟨s1,s2⟩:=G.shift (i:=i) (k:=f) aa hf;obtain⟨t1,t2⟩:=G.shift (i:=i+1) (k:=t) aa ht;exact⟨Oh t1 n3 s1 n1,ut (A:=72) (B:=8) (C:=72) (D:=8) t2 n4 s2 n2⟩
def sHA(a:Ad)(f t:Nat)(s2:Nat×Bk):Hp:=[adB a,fB f t,s2]
theorem Vq{a:Ad}(G:dX a){f t:Nat}{m:LLQ}(hm:∀d∈m,d.length=a.p.length∧bdR 160 d)(hN:m.length<=100)(h0:Hp)(hh:h0.length=3)(K:KL):∀(q l:LLQ)(v:LiQ)(s:V)(s2 s2':Nat×Bk),l++q=m->v.length=a.p.length->bdN (160*l.length) v ->
  cX (sHA a f t s2) s=some (szV (szI 1 v),sHA a f t s2') ->
  (∀s s2 s2',cX (sHA a f t s2) s=some (szV (szI 1 (stepG a.p v q)),sHA a f t s2')->K (.exit 0) [I 0,s] (sHA a f t s2)) ->
  lp (EY (CX Y) (.ptr 0 1 0 6) (mat m) (I m.length)) [] h0 [I 0,s,I l.length] (sHA a f t s2) K
 | [],l,v,s,s2,s2',hl,hv,hb,hs,hK=>by
  have e:l.length=m.length:=by rw[<-hl];simp
  refine AJ ?_;simp[EY,e];exact hK s s2 s2' hs
 | d::q,l,v,s,s2,s2',hl,hv,hb,hs,hK=>by
  have hll:m.length=l.length+(q.length+1):=by rw[<-hl];simp
  obtain⟨d1,d2⟩:=hm d (by grind);obtain⟨hin,hp0⟩:=Ei G.hp;have hNp:=hin.2.1;have mg:=Mi G d1 (Dw d2 aa);have ba:bdN 160 (oW a.p d):=nL (tK (B:=160) d2);have sa:=SX G.hp (b:=1) (B:=160*l.length) (C:=160) AF AF hv (by rw[KF,d1]) hb ba aa AF
  have i1:∀h:Hp,ixV h 1 (mat m) (I l.length)=some (.dptr (m.map row) l.length):=fun h=>qw row _ h rfl aa
  have i2:∀h:Hp,ld1 h (.dptr (m.map row) l.length)=some (lst di d):=fun h=>by rw[jO row [] m h aa,<-hl,nr];rfl
  have l6:∀x,ldA (sHA a f t x) 6 (.ptr 0 1 0 6)=some (.agg (adC a)):=fun _=>rfl
  have f0:∀x,ld1 (sHA a f t x) (.ptr 0 1 0 6)=some (lst di a.p):=fun _=>rfl
  have vl:(kh 1 v (oW a.p d)).length=a.p.length:=by rw[kf _ (by rw[KF,hv,d1]),hv]
  have ih:=Vq G hm hN h0 hh K q (l++[d]) (kh 1 v (oW a.p d)) (szV (szI 1 (kh 1 v (oW a.p d)))) s2' s2' (by grind) vl (by
   have:=lN hb ba
   grind) (by rfl) hK
  have g:(l.length:Int)<m.length:=aa;refine AJ ?_;have hn:nth [] m l.length=d:=by rw[<-hl,nr]
  have sn:AT (sHA a f t s2) [lst di a.p,s,szV (szI 1 (oW a.p d))]=some ([lst di a.p,szV (szI 1 v),szV (szI 1 (oW a.p d))],sHA a f t s2'):=
   GY (by rfl) (GY hs (GY (by rfl) (by rfl)))
  have hre:∀x,aL [] 0 h0 (sHA a f t x)=sHA a f t x:=fun x=>ua 0 h0 _ (by simp[sHA,hh])
  simp[EY,g,i1,i2,hn];refine AN ?_;simp[i1,i2,hn];refine AN ?_;simp[l6];refine cd mg ?_;simp;refine AN ?_;simp[f0];refine cdz sn sa ?_;rw[show cj (V.tup [szV (szI 1 (kh 1 v (oW a.p d))),I 0])=false from rfl,if_neg AF];simp(disch:=try exact zN)[hre];have e2:((l++[d]).length:Int)=(l.length:Int)+1:=mR
  simp_all
theorem Qo(n:Nat):szI 1 (List.replicate n 0)=List.replicate n (0,1):=by
 induction n with
 |zero=>rfl
 |succ n ih=>rw[List.replicate_succ,List.replicate_succ];show _::szI 1 (List.replicate n 0)=_;rw[ih];rfl
theorem step_ok{a:Ad}(G:dX a){t:Nat}(hi:i<a.lk.length)(hf:f<(nth [] a.cd i).length)(ht:t<(nth [] a.cd (i+1)).length):
  CP Y F.CQ [.agg (adC a),mat (IP a),I i,.agg [I f,I t]] (.tup [szV (szI 1 (Qp a i f t)),I 0]):=by
 refine MC ?_;have mv:=Tj G hi hf ht;have mm:=G.move hi hf ht;have hml:(qa a i f t).length=(nth [] a.lk i).length:=by simp[qa]
 have hls:=G.wk.ls _ (BD (d:=[]) hi)
 change CP Y F.BN [.agg (adC a),mat (IP a),I i,.agg [I f,I t]] (.tup [mat (qa a i f t),I 0])at mv
 obtain⟨hin,hp0⟩:=Ei G.hp;have hNp:=hin.2.1;have bx:=PG (a:=a) 0 [nnQ,nnQ,nnQ] [adB a,nnQ,nnQ] rfl rfl;have bl:∀(k:kkQ)(u:PU k),rh (oR 1 (.agg [I f,I t]) [adB a,nnQ,nnQ]) k u=k (.ptr 1 1 0 2) (sHA a f t nnQ):=fun _ _=>rfl
 have l6:∀x,ldA (sHA a f t x) 6 (.ptr 0 1 0 6)=some (.agg (adC a)):=fun _=>rfl
 have l2:∀x,ldA (sHA a f t x) 2 (.ptr 1 1 0 2)=some (.agg [I f,I t]):=fun _=>rfl
 have f0:∀x,ld1 (sHA a f t x) (.ptr 0 1 0 6)=some (lst di a.p):=fun _=>rfl
 have zi:=Sa (h:=sHA a f t nnQ) rfl G.hp.1 aa;unfold Qp;generalize qa a i f t=m at *;simp[CQ,bx,bl,l6,l2];refine cd mv ?_;simp[f0];refine EH (TS (e:=0) (b:=.none) zi rfl ?_)
 have eZ:(List.replicate a.p.length zT).flatMap ub=((List.replicate a.p.length ((0,1):Q)).map tx).flatMap ub:=by
  rw[List.map_replicate];rfl
 have hfl:((List.replicate a.p.length zT).flatMap ub).length=a.p.length*2:=by rw[CB ub Bp];simp
 have sn:cX (sHA a f t (1,.data 2 ((List.replicate a.p.length zT).flatMap ub) true false)) (.ref 2 1 0 a.p.length a.p.length ((List.replicate a.p.length zT).flatMap ub).length)=some (szV (szI 1 (List.replicate a.p.length 0)),sHA a f t (1,.data 2 ((List.replicate a.p.length zT).flatMap ub) true true)):=by
  rw[Qo];simp only[cX,toD,sHA,aj,List.getElem?_cons_succ,List.getElem?_cons_zero,if_true];rw[if_pos ⟨trivial,Z5 _,aa⟩];simp only[szV,sk,List.length_map,Yy,Y0,<-eZ];rw[Zd aa];rfl
 have hs:(sHA a f t nnQ).set 2 (0+1,.data 2 ((List.replicate a.p.length zT).flatMap ub) true false)=sHA a f t (1,.data 2 ((List.replicate a.p.length zT).flatMap ub) true false):=rfl;rw[hs]
 have:=Vq G (f:=f) (t:=t) (m:=m) mm aa (sHA a f t (1,.data 2 ((List.replicate a.p.length zT).flatMap ub) true false)) rfl
  (exK [(Exit.exit 0,fun l16 h=>out (V.tup [szV (szI 1 (stepG a.p (List.replicate a.p.length 0) m)),I 0]) (V.tup [ge l16 1,ge l16 0]) h)]) m [] (List.replicate a.p.length 0) _ _ _ rfl mR (fun x hx=>by grind) sn
  (fun s s2 s2' h=>AO h rfl)
 exact this
def rj(p:LiQ):List LLQ->Int
 |[]=>0
 |l::q=>if l.length=0 then 13 else if 20<l.length then 4 else if mzB p l≠0 then mzB p l else rj p q
theorem aef{a:Ad}(hp:a.p.length<1000000000)(hc:∀c∈a.cd,c.length<1000000000)(hN:a.cd.length<1000000)(k:KL):∀(q l:List LLQ),l++q=a.cd ->
  (rj a.p q=0->k (.exit 0) [] [adB a])->(rj a.p q≠0->k .ret [I (rj a.p q)] [adB a]) ->
  lp (Bi (CX Y) (.ptr 0 1 0 6) (lst qb a.cd) (I a.cd.length)) [] [adB a] [I l.length] [adB a] k
 | [],l,hl,h0,h1=>by
  have e:l.length=a.cd.length:=by rw[<-hl];simp
  refine AJ ?_;simp[Bi,e];exact h0 rfl
 | c::q,l,hl,h0,h1=>by
  have hll:a.cd.length=l.length+(q.length+1):=by rw[<-hl];simp
  have hcl:=hc c (by grind);have i1:∀h:Hp,ixV h 1 (lst qb a.cd) (I l.length)=some (.dptr (a.cd.map qb) l.length):=fun h=>qw qb _ h rfl aa
  have i2:∀h:Hp,ld1 h (.dptr (a.cd.map qb) l.length)=some (.d (qb c)):=fun h=>by rw[jO qb [] a.cd h aa,<-hl,nr]
  have f1:ld1 [adB a] (.ptr 0 1 0 6)=some (lst di a.p):=rfl;refine AJ ?_;simp only[rj]at h0 h1;by_cases g:c.length=0
  .rw[if_pos g]at h1;have g':(c.length:Int)=0:=aa;simp(disch:=try exact zN)[Bi,i1,i2,g']
   grind
  .rw[if_neg g]at h0 h1;have g':¬c=[]:=by rintro rfl;simp at g
   by_cases g2:20<c.length
   .rw[if_pos g2]at h1;have g2':(20:Int)<c.length:=aa;simp(disch:=try exact zN)[Bi,i1,i2,g',g2']
    grind
   .rw[if_neg g2]at h0 h1;have g2':¬(20:Int)<c.length:=aa;simp(disch:=try exact zN)[Bi,i1,i2,g',g2',f1];refine cd (args:=[lst di a.p,mat c]) (Gr hp hcl) ?_;by_cases g3:mzB a.p c=0
    .rw[if_neg (by simp[g3])]at h0 h1;simp(disch:=try exact zN)[g3];have:=aef hp hc hN k q (l++[c]) (by grind) h0 h1
     simp_all
    .rw[if_pos g3]at h1;simp[g3]
     grind
def acB(a:Ad):Int:=if dcB a.p a.ch a.lk≠0 then dcB a.p a.ch a.lk else if a.cd.length≠a.ch.length then 5 else if rj a.p a.cd≠0 then rj a.p a.cd else if a.w.1<0 then 3 else 0
theorem YE{a:Ad}(hp:a.p.length<1000000000)(hc:∀c∈a.ch,c.length<1000000000)(hN:a.ch.length<1000000)(hM:a.lk.length<1000000)(hl:∀l∈a.lk,l.length<1000000)(hd:∀c∈a.cd,c.length<1000000000)(hD:a.cd.length<1000000)(hw:okQ a.w∧qL 30 a.w):
  CP Y F.Bf [.agg (adC a)] (I (acB a)):=by
 refine IB ?_;have dc:=K4 hp hc hN hM hl;have fc:=Jo (itoa a.w.1) (AI a.w.2) (by have:=(Lm hw.2).1;grind[tx]) (by have:=(Lm hw.2).2;grind[tx]);have rd:=UB hw.1 hw.2;simp only[tx]at rd;rw[rd]at fc;have fs:=QK a.w;have bx:=PG (a:=a) 0 [nnQ] [adB a] rfl rfl;have l3:ldA [adB a] 3 (.ptr 0 1 0 6)=some (.agg (wkC a.p a.ch a.lk)):=rfl
 have f1:ld1 [adB a] (.ptr 0 1 1 6)=some (lst qb a.ch):=rfl;have f3:ld1 [adB a] (.ptr 0 1 3 6)=some (lst qb a.cd):=rfl;have lw:ldA [adB a] 2 (.ptr 0 1 4 6)=some (.agg (qT a.w)):=rfl;have hgX:bB [adB a] 0 1=.vars [lst di a.p,lst qb a.ch,lst lkD a.lk,lst qb a.cd,S (itoa a.w.1),S (AI a.w.2)]:=rfl;unfold acB;simp[Bf,bx,l3];refine cd dc ?_;by_cases g:dcB a.p a.ch a.lk=0
 .rw[if_neg (by simp[g])];simp[g,f1,f3];by_cases g2:a.cd.length=a.ch.length
  .rw[if_neg aa];have g2':(a.cd.length:Int)=(a.ch.length:Int):=aa;simp(disch:=try exact zN)[g2',f3];rw[<-g2'];refine lo (aef hp hd hD _ a.cd [] rfl (fun g3=>?_) (fun g3=>?_))
   .rw[if_neg aa];simp[hgX];refine cd fc ?_;simp[hgX];refine cd (args:=[.agg (qT a.w)]) fs ?_ (by rfl);by_cases g4:a.w.1<0
    .rw[if_pos g4];have g5:sgn a.w.1<0:=by unfold sgn;split<;>first|omega|(split<;>omega)
     simp[g5]<;>exact A3 rfl
    .rw[if_neg g4];have g5:¬sgn a.w.1<0:=by unfold sgn;split<;>first|omega|(split<;>omega)
     simp[g5]<;>exact A3 rfl
   .rw[if_pos g3];simp<;>exact A3 rfl
  .rw[if_pos g2];have g2':¬(a.cd.length:Int)=(a.ch.length:Int):=aa;simp(disch:=try exact zN)[g2']<;>exact A3 rfl
 .rw[if_pos g];simp[g]<;>exact A3 rfl
theorem Tf{n:Nat}:∀{m:LLQ},(∀r∈m,r.length=n∧bdR 1000 r)->wL n m=0
 |[],_=>rfl
 | r::m,h=>by
  obtain⟨h1,h2⟩:=h r mR;simp only[wL];rw[if_neg aa,if_pos (N8 h2)];exact Tf fun x hx=>h x (by grind)
theorem O0(hp:pcB p=0)(h:∀r∈m,r.length=p.length∧bdR 1000 r):mzB p m=0:=by grind[mzB,Tf]
theorem Py(h0:0<n)(h1:n<=most):oN n most=0:=by unfold oN;rw[if_neg aa,if_neg aa]
theorem QR{p:LiQ}(hp:pcB p=0):∀{ch:List LLQ},(∀c∈ch,(0<c.length∧c.length<=12)∧∀r∈c,r.length=p.length∧bdR 1000 r)->uT p ch=0
 |[],_=>rfl
 | c::q,h=>by
  obtain⟨⟨h1,h2⟩,h3⟩:=h c mR;simp only[uT];rw[if_neg (by grind[Py]),if_neg (by grind[O0])];exact QR hp fun x hx=>h x (by grind)
theorem PE{p:LiQ}(hp:pcB p=0):∀{cd:List LLQ},(∀c∈cd,(0<c.length∧c.length<=20)∧∀r∈c,r.length=p.length∧bdR 1000 r)->rj p cd=0
 |[],_=>rfl
 | c::q,h=>by
  obtain⟨⟨h1,h2⟩,h3⟩:=h c mR;simp only[rj];rw[if_neg aa,if_neg aa,if_neg (by grind[O0])];exact PE hp fun x hx=>h x (by grind)
theorem QF{n:Nat}{B:Int}{ch:List LLQ}{lk:List (List Lk)}(w:oY n B ch lk)(hne:∀l∈lk,0<l.length):∀(q d:List (List Lk)),d++q=lk->wP ch d.length q=0
 |[],_,_=>rfl
 | l::q,d,hd=>by
  have hm:l∈lk:=by rw[<-hd];simp
  have hl:nth [] lk d.length=l:=by rw[<-hd,nr]
  have ok:=w.ok d.length (by grind);rw[hl]at ok;simp only[wP];rw[if_neg (by grind[Py,oY.ls]),if_pos ok];have:=QF w hne q (d++[l]) (by grind)
  grind
theorem dX.dc(G:dX a):dcB a.p a.ch a.lk=0:=by
 have h5:=G.five;have hl:=G.wk.len;unfold dcB;rw[if_neg (by simp[G.hp.1]),if_neg (by simp[Py (n:=a.ch.length) (most:=64) aa aa]),if_neg,if_pos hl]
 .exact QF G.wk G.lkn a.lk [] rfl
 .simp[QR G.hp.1 (ch:=a.ch) fun c hc=>⟨⟨G.cne c hc,G.wk.cs c hc⟩,fun r hr=>⟨(G.wk.rows c hc r hr).1,Dw (G.wk.rows c hc r hr).2 aa⟩⟩]
theorem dX.ac(G:dX a):acB a=0:=by obtain⟨w1,w2,w3,w4⟩:=G.w0;unfold acB;rw[if_neg (by simp[G.dc]),if_neg (by simp[G.cl]),if_neg,if_neg aa];simp[PE G.hp.1 (cd:=a.cd) fun c hc=>⟨G.cn c hc,fun r hr=>⟨(G.cr c hc r hr).1,Dw (G.cr c hc r hr).2 aa⟩⟩]
theorem dX.qL(G:dX a):qL 30 a.w:=by obtain⟨w1,w2,w3,w4⟩:=G.w0;exact⟨jK (d:=30) aa AF,jK (d:=30) aa AF⟩
theorem dX.check(G:dX a):CP Y F.Bf [.agg (adC a)] (I 0):=by
 obtain⟨hin,hp0⟩:=Ei G.hp;have hN:=hin.2.1;have h5:=G.five;have hl:=G.wk.len;have hc:=G.cl;have:=YE (a:=a) aa (fun c hc=>by have:=G.wk.cs c hc;omega) aa aa (fun l hl=>by have:=G.wk.ls l hl;omega) (fun c hc=>by grind[cn]) aa ⟨G.w0.1,G.qL⟩
 grind[ac]
theorem dX.fits(G:dX a):mzB a.p (IP a)=0:=by
 refine O0 G.hp.1 fun r hr=>?_
 obtain⟨j,hj,rfl⟩:=Xe hr;have hl:=G.wk.len;have hc:=G.cl;have:=Vw a;obtain⟨h1,h2⟩:=G.root (i:=j) aa
 grind[dM,Dw]
theorem dX.roots(G:dX a):CP Y F.Eo [.agg (wkC a.p a.ch a.lk)] (.tup [mat (IP a),I 0]):=by obtain⟨hin,hp0⟩:=Ei G.hp;have hN:=hin.2.1;exact abV G.wk hp0 aa aa aa G.lkn G.dc G.fits
def cnD(c:LLQ×Bool):D:=.sl c.1.length (c.1.map fun r=>if c.2 then .pl (.slice none 0 0)else row r)
@[simp]theorem wU(c:LLQ×Bool):fL (.d (cnD c))=some (I c.1.length):=rfl
theorem V8{c:LLQ×Bool}(h:c.2=false):V.d (cnD c)=mat c.1:=by unfold cnD;rw[h];rfl
structure Ag where
 p:LiQ
 ch:List LLQ
 lk:List (List Lk)
 cd:List (LLQ×Bool)
 n:LuQ
 d:LuQ
def agC(a:Ag):LwQ:=[lst di a.p,lst qb a.ch,lst lkD a.lk,lst cnD a.cd,S a.n,S a.d]
def agB(a:Ag):Nat×Bk:=(1,.vars (agC a))
@[simp]theorem yK(h:Hp)(a:Ag):AT h (agC a)=some (agC a,h):=rfl
theorem PF{a:Ag}(s:Nat)(h h':Hp)(hh:(match h[s]? with|some (e,_)=>h.set s (e+1,.vars (agC a))|none=>h)=h'){e:Nat}{b:Bk}(hs:h[s]?=some (e,b))(k:kkQ)(u:PU k):rh (oR s (.agg (agC a)) h) k u=k (.ptr s (e+1) 0 6) h':=by simp_all[agC]
structure Af(a:Ag):Prop where
 p:a.p.length<1000000000
 ch:∀c∈a.ch,c.length<1000000000
 cn:a.ch.length<1000000
 lk:∀l∈a.lk,l.length<1000000
 ln:a.lk.length<1000000
 cd:∀c∈a.cd,c.1.length<1000000000
 nl:∀c∈a.cd,c.2=true->20<c.1.length
 dn:a.cd.length<1000000
 wn:a.n.length<1000000000
 wd:a.d.length<1000000000
def wtB(n d:LuQ):Int:=match rdF n d with
 |none=>2
 |some q=>if q.1<0 then 3 else 0
def agE(a:Ag):Int:=if dcB a.p a.ch a.lk≠0 then dcB a.p a.ch a.lk else if a.cd.length≠a.ch.length then 5 else if rj a.p (a.cd.map Prod.fst)≠0 then rj a.p (a.cd.map Prod.fst)else wtB a.n a.d
theorem aee{a:Ag}(G:Af a)(k:KL):∀(q l:List (LLQ×Bool)),l++q=a.cd ->
  (rj a.p (q.map Prod.fst)=0->k (.exit 0) [] [agB a])->(rj a.p (q.map Prod.fst)≠0->k .ret [I (rj a.p (q.map Prod.fst))] [agB a]) ->
  lp (Bi (CX Y) (.ptr 0 1 0 6) (lst cnD a.cd) (I a.cd.length)) [] [agB a] [I l.length] [agB a] k
 | [],l,hl,h0,h1=>by
  have e:l.length=a.cd.length:=by rw[<-hl];simp
  refine AJ ?_;simp[Bi,e];exact h0 rfl
 | c::q,l,hl,h0,h1=>by
  have hll:a.cd.length=l.length+(q.length+1):=by rw[<-hl];simp
  have hN:=G.dn;have hcl:=G.cd c (by grind);have i1:∀h:Hp,ixV h 1 (lst cnD a.cd) (I l.length)=some (.dptr (a.cd.map cnD) l.length):=fun h=>qw cnD _ h rfl aa
  have i2:∀h:Hp,ld1 h (.dptr (a.cd.map cnD) l.length)=some (.d (cnD c)):=fun h=>by rw[jO cnD ([],false) a.cd h aa,<-hl,nr]
  have f1:ld1 [agB a] (.ptr 0 1 0 6)=some (lst di a.p):=rfl;refine AJ ?_;simp only[Z0,rj]at h0 h1;by_cases g:c.1.length=0
  .rw[if_pos g]at h1;have g':(c.1.length:Int)=0:=aa;simp(disch:=try exact zN)[Bi,i1,i2,g']
   grind
  .rw[if_neg g]at h0 h1;have g':¬c.1=[]:=by intro e;rw[e]at g;simp at g
   by_cases g2:20<c.1.length
   .rw[if_pos g2]at h1;have g2':(20:Int)<c.1.length:=aa;simp(disch:=try exact zN)[Bi,i1,i2,g',g2']
    grind
   .rw[if_neg g2]at h0 h1;have g2':¬(20:Int)<c.1.length:=aa;simp(disch:=try exact zN)[Bi,i1,i2,g',g2',f1]
    have hb:c.2=false:=by
     cases hb:c.2 with
     |false=>rfl
     |true=>exact absurd (G.nl c (by grind) hb) g2
    rw[V8 hb];refine cd (args:=[lst di a.p,mat c.1]) (Gr G.p hcl) ?_;by_cases g3:mzB a.p c.1=0
    .rw[if_neg (by simp[g3])]at h0 h1;simp(disch:=try exact zN)[g3];have:=aee G k q (l++[c]) (by grind) h0 h1
     simp_all
    .rw[if_pos g3]at h1;simp[g3]
     grind
theorem abX{n d:LuQ}(h:rdF n d=some q):n=itoa q.1∧d=AI q.2:=by
 unfold rdF at h;cases h1:rd n with
 |none=>rw[h1]at h;cases h
 | some x=>
  cases h2:rd d with
  |none=>rw[h1,h2]at h;cases h
  | some y=>
   rw[h1,h2]at h;simp only at h;split at h
   .rename_i hc;obtain rfl:=Option.some.inj h;refine⟨(Ob h1).1,?_⟩;rw[(Ob h2).1];unfold itoa;rw[if_neg aa]
   .cases h
theorem Sl{n d:LuQ}(h:rdF n d=some q):CP Y F.DL [.agg [S n,S d]] (I (sgn q.1)):=by obtain⟨rfl,rfl⟩:=abX h;exact QK q
theorem Oa:sgn z<0↔z<0:=by unfold sgn;split<;>first|omega|(split<;>omega)
theorem G6{a:Ag}(G:Af a):CP Y F.Bf [.agg (agC a)] (I (agE a)):=by
 refine IB ?_;have dc:=K4 G.p G.ch G.cn G.ln G.lk;have fc:=Jo a.n a.d G.wn G.wd;have bx:=PF (a:=a) 0 [nnQ] [agB a] rfl rfl;have l3:ldA [agB a] 3 (.ptr 0 1 0 6)=some (.agg (wkC a.p a.ch a.lk)):=rfl;have f1:ld1 [agB a] (.ptr 0 1 1 6)=some (lst qb a.ch):=rfl;have f3:ld1 [agB a] (.ptr 0 1 3 6)=some (lst cnD a.cd):=rfl
 have lw:ldA [agB a] 2 (.ptr 0 1 4 6)=some (.agg [S a.n,S a.d]):=rfl;have hgX:bB [agB a] 0 1=.vars [lst di a.p,lst qb a.ch,lst lkD a.lk,lst cnD a.cd,S a.n,S a.d]:=rfl;unfold agE;simp[Bf,bx,l3];refine cd dc ?_;by_cases g:dcB a.p a.ch a.lk=0
 .rw[if_neg (by simp[g])];simp[g,f1,f3];by_cases g2:a.cd.length=a.ch.length
  .rw[if_neg aa];have g2':(a.cd.length:Int)=(a.ch.length:Int):=aa;simp(disch:=try exact zN)[g2',f3];rw[<-g2'];refine lo (aee G _ a.cd [] rfl (fun g3=>?_) (fun g3=>?_))
   .rw[if_neg aa];simp[hgX];refine cd fc ?_;unfold wtB;cases hr:rdF a.n a.d with
    |none=>simp<;>exact A3 rfl
    | some q=>
     simp[hgX];refine cd (args:=[.agg [S a.n,S a.d]]) (Sl hr) ?_ (by rfl);by_cases g4:q.1<0
     .rw[if_pos g4];simp[Oa.2 g4]<;>exact A3 rfl
     .rw[if_neg g4];have g5:¬sgn q.1<0:=fun h=>g4 (Oa.1 h)
      simp[g5]<;>exact A3 rfl
   .rw[if_pos g3];simp<;>exact A3 rfl
  .rw[if_pos g2];have g2':¬(a.cd.length:Int)=(a.ch.length:Int):=aa;simp(disch:=try exact zN)[g2']<;>exact A3 rfl
 .rw[if_pos g];simp[g]<;>exact A3 rfl
theorem T6{a:Ag}(G:Af a)(k:KL):∀(q l:List (LLQ×Bool)),l++q=a.cd ->
  (rj a.p (q.map Prod.fst)=0->k (.exit 0) [] [agB a])->(rj a.p (q.map Prod.fst)≠0->k .ret [I (rj a.p (q.map Prod.fst))] [agB a]) ->
  lp (Cg (CX Y) (.ptr 0 1 0 6)) [] [agB a] [I l.length] [agB a] k
 | [],l,hl,h0,h1=>by
  have e:l.length=a.cd.length:=by rw[<-hl];simp
  have f3:ld1 [agB a] (.ptr 0 1 3 6)=some (lst cnD a.cd):=rfl;refine AJ ?_;simp[Cg,e,f3];exact h0 rfl
 | c::q,l,hl,h0,h1=>by
  have hll:a.cd.length=l.length+(q.length+1):=by rw[<-hl];simp
  have hN:=G.dn;have hcl:=G.cd c (by grind);have i1:∀h:Hp,ixV h 1 (lst cnD a.cd) (I l.length)=some (.dptr (a.cd.map cnD) l.length):=fun h=>qw cnD _ h rfl aa
  have i2:∀h:Hp,ld1 h (.dptr (a.cd.map cnD) l.length)=some (.d (cnD c)):=fun h=>by rw[jO cnD ([],false) a.cd h aa,<-hl,nr]
  have f1:ld1 [agB a] (.ptr 0 1 0 6)=some (lst di a.p):=rfl;have f3:ld1 [agB a] (.ptr 0 1 3 6)=some (lst cnD a.cd):=rfl;have hlt:(l.length:Int)<a.cd.length:=aa;refine AJ ?_;simp only[Z0,rj]at h0 h1;by_cases g:c.1.length=0
  .rw[if_pos g]at h1;have g':(c.1.length:Int)=0:=aa;simp(disch:=try exact zN)[Cg,f3,hlt,i1,i2,g']
   grind
  .rw[if_neg g]at h0 h1;have g':¬c.1=[]:=by intro e;rw[e]at g;simp at g
   by_cases g2:20<c.1.length
   .rw[if_pos g2]at h1;have g2':(20:Int)<c.1.length:=aa;simp(disch:=try exact zN)[Cg,f3,hlt,i1,i2,g',g2']
    grind
   .rw[if_neg g2]at h0 h1;have g2':¬(20:Int)<c.1.length:=aa;simp(disch:=try exact zN)[Cg,f3,hlt,i1,i2,g',g2',f1]
    have hb:c.2=false:=by
     cases hb:c.2 with
     |false=>rfl
     |true=>exact absurd (G.nl c (by grind) hb) g2
    rw[V8 hb];refine cd (args:=[lst di a.p,mat c.1]) (Gr G.p hcl) ?_;by_cases g3:mzB a.p c.1=0
    .rw[if_neg (by simp[g3])]at h0 h1;simp(disch:=try exact zN)[g3];have:=T6 G k q (l++[c]) (by grind) h0 h1
     simp_all
    .rw[if_pos g3]at h1;simp[g3]
     grind
theorem abP{a:Ag}(G:Af a):CP Y F.C4 [.agg (agC a)] (I (agE a)):=by
 refine Kh ?_;have dc:=K4 G.p G.ch G.cn G.ln G.lk;have fc:=Jo a.n a.d G.wn G.wd;have bx:=PF (a:=a) 0 [nnQ] [agB a] rfl rfl;have l3:ldA [agB a] 3 (.ptr 0 1 0 6)=some (.agg (wkC a.p a.ch a.lk)):=rfl;have f1:ld1 [agB a] (.ptr 0 1 1 6)=some (lst qb a.ch):=rfl;have f3:ld1 [agB a] (.ptr 0 1 3 6)=some (lst cnD a.cd):=rfl
 have hgX:bB [agB a] 0 1=.vars [lst di a.p,lst qb a.ch,lst lkD a.lk,lst cnD a.cd,S a.n,S a.d]:=rfl;unfold agE;simp[C4,bx,l3];refine cd dc ?_;by_cases g:dcB a.p a.ch a.lk=0
 .rw[if_neg (by simp[g])];simp[g,f1,f3];by_cases g2:a.cd.length=a.ch.length
  .rw[if_neg aa];have g2':(a.cd.length:Int)=(a.ch.length:Int):=aa;simp(disch:=try exact zN)[g2',f3];refine lo (T6 G _ a.cd [] rfl (fun g3=>?_) (fun g3=>?_))
   .rw[if_neg aa];simp[hgX];refine cd fc ?_;unfold wtB;cases hr:rdF a.n a.d with
    |none=>simp<;>exact A3 rfl
    | some q=>
     simp[hgX];refine cd (args:=[.agg [S a.n,S a.d]]) (Sl hr) ?_ (by rfl);by_cases g4:q.1<0
     .rw[if_pos g4];simp[Oa.2 g4]<;>exact A3 rfl
     .rw[if_neg g4];have g5:¬sgn q.1<0:=fun h=>g4 (Oa.1 h)
      simp[g5]<;>exact A3 rfl
   .rw[if_pos g3];simp<;>exact A3 rfl
  .rw[if_pos g2];have g2':¬(a.cd.length:Int)=(a.ch.length:Int):=aa;simp(disch:=try exact zN)[g2']<;>exact A3 rfl
 .rw[if_pos g];simp[g]<;>exact A3 rfl
section
variable{a:Ag}(G:Af a)(ne:agE a≠0)
include G ne
theorem YC(x y:V):CP Y F.D4 [.agg (agC a),x,y] (.tup [.d (.sl 0 []),I (agE a)]):=by refine Nq ?_;have bx:=PF (a:=a) 0 [nnQ] [agB a] rfl rfl;have l3:ldA [agB a] 6 (.ptr 0 1 0 6)=some (.agg (agC a)):=rfl;simp[D4,bx,l3];refine cd (G6 G) ?_;simp[ne];exact⟨_,rfl⟩
theorem U5(x:V)(b c:Int):CP Y F.Dr [.agg (agC a),x,.agg [I b,I c]] (.tup [.d (.sl 0 []),I (agE a)]):=by
 refine MF ?_;have bx:=PF (a:=a) 0 [nnQ,nnQ] [agB a,nnQ] rfl rfl;have bx2:∀(k:kkQ)(u:PU k),rh (oR 1 (.agg [I b,I c]) [agB a,nnQ]) k u=k (.ptr 1 1 0 2) [agB a,(1,.vars [I b,I c])]:=fun _ _=>rfl
 have l3:ldA [agB a,(1,.vars [I b,I c])] 6 (.ptr 0 1 0 6)=some (.agg (agC a)):=rfl;simp[Dr,bx,bx2,l3];refine cd (G6 G) ?_;simp[ne];exact⟨_,rfl⟩
theorem HQ(x:V):CP Y F.Bz [.agg (agC a),x] (.tup [.d (.sl 0 []),I (agE a)]):=by refine HC ?_;have bx:=PF (a:=a) 0 [nnQ] [agB a] rfl rfl;have l3:ldA [agB a] 6 (.ptr 0 1 0 6)=some (.agg (agC a)):=rfl;simp[Bz,bx,l3];refine cd (G6 G) ?_;simp[ne];exact⟨_,rfl⟩
theorem T2:CP Y F.DW [.agg (agC a),.d (.sl 0 [])] (.tup [.d (.sl 0 []),I (agE a)]):=by refine LJ ?_;have bx:=PF (a:=a) 0 [nnQ] [agB a] rfl rfl;have l3:ldA [agB a] 6 (.ptr 0 1 0 6)=some (.agg (agC a)):=rfl;simp[DW,bx,l3];refine cd (HQ G ne _) ?_;simp[ne];exact⟨_,rfl⟩
theorem U6:CP Y F.B7 [.agg (agC a)] (.tup [.d (.sl 0 []),.d (.sl 0 []),I (agE a)]):=by refine IL ?_;have bx:=PF (a:=a) 0 [nnQ,nnQ,nnQ,nnQ,nnQ] [agB a,nnQ,nnQ,nnQ,nnQ] rfl rfl;have l3:ldA [agB a,nnQ,nnQ,nnQ,nnQ] 6 (.ptr 0 1 0 6)=some (.agg (agC a)):=rfl;simp[B7,bx,l3];refine cd (G6 G) ?_;simp[ne];exact⟨_,rfl⟩
theorem YB:CP Y F.Ci [.agg (agC a)] (.tup [.d (.sl 0 []),I (agE a)]):=by refine Jq ?_;have bx:=PF (a:=a) 0 [nnQ,nnQ] [agB a,nnQ] rfl rfl;have l3:ldA [agB a,nnQ] 6 (.ptr 0 1 0 6)=some (.agg (agC a)):=rfl;simp[Ci,bx,l3];refine cd (G6 G) ?_;simp[ne];exact⟨_,rfl⟩
theorem T4:CP Y F.Ca [.agg (agC a),.d (.sl 0 [])] (.tup [.d (.sl 0 []),I (agE a)]):=by refine Iz ?_;have bx:=PF (a:=a) 0 [nnQ,nnQ] [agB a,nnQ] rfl rfl;have l3:ldA [agB a,nnQ] 6 (.ptr 0 1 0 6)=some (.agg (agC a)):=rfl;simp[Ca,bx,l3];refine cd (HQ G ne _) ?_;simp[ne];exact⟨_,rfl⟩
theorem T5:CP Y F.Cb [.agg (agC a),.d (.sl 0 [])] (.tup [.d (.sl 0 []),I (agE a)]):=by refine IA ?_;have bx:=PF (a:=a) 0 [nnQ,nnQ] [agB a,nnQ] rfl rfl;have l3:ldA [agB a,nnQ] 6 (.ptr 0 1 0 6)=some (.agg (agC a)):=rfl;simp[Cb,bx,l3];refine cd (HQ G ne _) ?_;simp[ne];exact⟨_,rfl⟩
theorem R3:CP Y F.Dn [.agg (agC a),.d (.sl 0 []),.d (.sl 0 [])] (I (agE a)):=by refine Lf ?_;have bx:=PF (a:=a) 0 [nnQ,nnQ,nnQ,nnQ,nnQ,nnQ,nnQ] [agB a,nnQ,nnQ,nnQ,nnQ,nnQ,nnQ] rfl rfl;have l3:ldA [agB a,nnQ,nnQ,nnQ,nnQ,nnQ,nnQ] 6 (.ptr 0 1 0 6)=some (.agg (agC a)):=rfl;simp[Dn,bx,l3];refine cd (HQ G ne _) ?_;simp[ne]
end
structure ae5(b:Nat)(c:UInt8)(kb:Nat):Prop where
 hc:AI b=[c]
 c1:¬c=49
 c2:¬c=48
 b2:2<=b
 b8:b<=8
 hkb:ia b=kb
 k2:2<=kb
 k4:kb<=4
 n1:ndg b=1
theorem nM:ae5 2 50 2:=⟨dQ,AF,AF,AF,AF,by rfl,AF,AF,dQ⟩
variable{b:Nat}{c:UInt8}{kb:Nat}
variable{l:Int->Nat}{N:Nat}
end Go.Vm
