/- Lemmas. -/
import Derived.Test.YtgcaaigeilmbaabGreatDoorQDcY
set_option linter.unusedVariables false
set_option linter.unusedSimpArgs false
namespace Go.Vm
open Go Go.Am Go.Big
variable{a b c j x n i k v d w r:Nat}{o A l:LnQ}{s:LuQ}{z y:Int}{p:LiQ}
theorem Us(ha:a<4294967296)(hb:b<4294967296):biI .or (.d (.int .u32 a)) (.d (.int .u32 b))=some (.d (.int .u32 ((a|||b:Nat):Int))):=by
 have h:a|||b<2^32:=Nat.or_lt_two_pow (n:=32) ha hb;have ea:(BitVec.ofInt 32 (a:Int)).toNat=a:=by simp[BitVec.toNat_ofInt];omega
 have eb:(BitVec.ofInt 32 (b:Int)).toNat=b:=by simp[BitVec.toNat_ofInt];omega
 have e:(BitVec.ofInt 32 (a:Int)|||BitVec.ofInt 32 (b:Int)).toNat=a|||b:=by rw[BitVec.toNat_or,ea,eb]
 show mB (some (Value.int .u32 (IntKind.wrap .u32 ((BitVec.ofInt 32 (a:Int)|||BitVec.ofInt 32 (b:Int)).toNat:Int))))=_
 rw[e,L4 aa aa];rfl
theorem MC{t:Nat}(h:c<2^j):c|||(2^j*t)=c+2^j*t:=by rw[Nat.or_comm,<-Nat.two_pow_add_eq_or_of_lt h,Yf]
theorem aaN(h:x<W):x<4294967296:=h
def shH(o:LnQ):Hp:=[(1,.data 1 (o.map u32) false false),nnQ]
@[simp]theorem adQ(o:LnQ):List.length (shH o)=2:=id rfl
theorem shI(hn:o.length=n)(hi:i<n):ixV (shH o) 1 (.ref 0 1 0 n n n) (.d (.int .i64 (i:Int)))=some (.ptr 0 1 i n):=ixB rfl hn hi _
theorem shL(hn:o.length=n)(hi:i<n):ld1 (shH o) (.ptr 0 1 i n)=some (.d (.int .u32 ((nth 0 o i:Nat):Int))):=ldB 0 (f:=u32) rfl hn hi
theorem shS(hn:o.length=n)(hi:i<n):st (shH o) 1 (.ptr 0 1 i n) (.d (.int .u32 (x:Int)))=some (shH (o.set i x)):=stB (f:=u32) rfl hn hi (x:=x) rfl
theorem JO{L:LnQ}(hL:aw W L)(hLl:L.length<1000000000000){w r n:Nat}(hr:r<32)(k:KL)(h0:Hp)(hh:h0.length=2):∀(q p d:LnQ),L.drop w=p++q->d.length=p.length->(p++q).length=n ->
  k (.exit 0) [] (shH (d++xM r q)) ->
  lp (jI (CX Y) (lst u32 L) (I w) (.d (.int .u64 r)) (.ref 0 1 0 n n n) (I n)) [] h0 [I p.length] (shH (d++q)) k
 | []=>by
  intro p d hp hd hn hk;simp at hn;refine ai ?_;simp(disch:=try exact ac)[jI];simpa[xM]using hk
 | x::q=>by
  intro p d hp hd hn hk;have hsub:∀y∈p++x::q,y<W:=fun y hy=>hL y (List.mem_of_mem_drop (by rw[hp];exact hy))
  have hx:=aaN (hsub x af)
  have hwl:w+(p.length+(q.length+1))<=L.length:=by
   have:=congrArg List.length hp;simp at this;omega
  simp at hn;have hp2:=Zp r;have hdx:x/2^r<4294967296:=Zu (Y5 _ _) hx;have cK:∀y z,(d++y::q).set p.length z=d++z::q:=fun y z=>by rw[<-hd,X9 _ _ (Z7 _)];simp
  have hnth:∀y,nth 0 (d++y::q) p.length=y:=fun y=>by rw[<-hd];simp
  have hdl:∀y,(d++y::q).length=n:=fun y=>by simp;omega
  have ih:=JO hL hLl hr k h0 hh q (p++[x]) (d++[x/2^r+(2^(32-r)*q.headD 0)%4294967296]) (by simpa using hp) (by simp[hd]) ak (by simpa[xM]using hk);have hxr:(x:Int)/2^r=((x/2^r:Nat):Int):=af;obtain⟨z,hz⟩:=mnQ (x/2^r);rw[hz]at hxr hdx ih;have sI:=fun y=>shI (hdl y) (i:=p.length) aa
  have sL:=fun y=>shL (hdl y) (i:=p.length) aa
  have sS:=fun y z=>shS (x:=z) (hdl y) (i:=p.length) aa
  simp only[cK,hnth]at sL sS;refine ai ?_;by_cases hq:q=[]
  .subst hq;simp only[List.headD_nil,Nat.mul_zero,Nat.zero_mod,Nat.add_zero,xM]at ih hk;have hnn:¬((p.length:Int)+1<n):=by simp at hn;omega
   simp(disch:=try exact ac)[jI];refine aE ?_;simp(disch:=try exact ac)[sI,sL,sS,hxr,hnn];refine dy (l:=[]) (h:=shH (d++[z])) (fun q=>?_) ?_
   .simp(disch:=try exact ac)
   simp(disch:=try exact ac)[hh];simpa using ih
  ·obtain ⟨y,t,rfl⟩:∃y t,q=y::t:=by cases q with
    |nil=>exact absurd rfl hq
    |cons y t=>exact⟨y,t,rfl⟩
   have hnn:(p.length:Int)+1<n:=by simp at hn;omega
   have hy:=aaN (hsub y af);simp only[List.headD_cons]at ih;by_cases hr0:r=0
   .subst hr0;have e0:(2^(32-0)*y)%4294967296=0:=aa;rw[e0,Nat.add_zero]at ih;simp(disch:=try exact ac)[jI];refine aE ?_;have hzx:z=x:=by simpa using hz.symm
    subst hzx;simp(disch:=try exact ac)[sI,sL,sS,hxr,hnn];refine dy (l:=[]) (h:=shH (d++z::y::t)) (fun q=>?_) ?_
    .simp(disch:=try exact ac)
    simp(disch:=try exact ac)[hh];simpa using ih
   .obtain⟨m,hm⟩:=nmQ (w+p.length+1);have e1:((w:Int)+(p.length:Int)+1)=(m:Int):=aa
    have hLy:nth 0 L m=y:=by
     have hw:(L.drop w)[p.length+1]?=some y:=by rw[hp];simp
     rw[List.getElem?_drop]at hw;unfold nth;rw[Zz,hm,Nat.add_assoc,hw];rfl
    have eI:=qt u32 L (shH (d++z::y::t)) (k:=.i64) (i:=(m:Int)) aa (by simp at hwl;omega);have eL:=aaQ L (shH (d++z::y::t)) (j:=m) (by simp at hwl;omega);rw[hLy]at eL;obtain⟨s,hs⟩:=mnQ (32-r);have es:((32:Int)-(r:Int))=(s:Int):=aa
    have hsh:IntKind.wrap .u32 ((y:Int)*2^s)=((2^s*y%4294967296:Nat):Int):=by
     rw[wrap_u32',Zw];simp
    have hor:z|||(2^s*y%4294967296)=z+2^s*y%4294967296:=by
     have h32:2^s*2^r=4294967296:=by rw[<-hs,Zw];exact CJ aa
     rw[<-h32,Xb];refine MC ?_;rw[<-hz];exact Y8 (by rw[Zw,h32];exact hx)
    rw[hs]at ih;obtain⟨v,hv⟩:=mnQ (2^s*y%4294967296);have hv32:v<4294967296:=by rw[<-hv];exact Zk _ ae
    rw[hv]at hor ih hsh;have hob:=Us hdx hv32;obtain⟨u,hu⟩:=mnQ (z+v);rw[hu]at ih hor;rw[hor]at hob;simp(disch:=try exact ac)[jI];refine aE ?_;simp(disch:=try exact ac)[sI,sL,sS,hxr,hnn];refine dy (l:=[]) (h:=shH (d++u::y::t)) (fun q=>?_) ?_
    .simp(disch:=try exact ac)[sI,sL,sS,e1,eI,eL,es,hsh,hob,show 0<r by omega]
    simp(disch:=try exact ac)[hh];simpa using ih
def slH(o:LnQ):Hp:=[nnQ,(1,.data 1 (o.map u32) true false)]
@[simp]theorem adM(o:LnQ):List.length (slH o)=2:=id rfl
theorem slI(hn:o.length=n)(hi:i<n):ixV (slH o) 1 (.ref 1 1 0 n n n) (.d (.int .i64 (i:Int)))=some (.ptr 1 1 i n):=ixB rfl hn hi _
theorem slL(hn:o.length=n)(hi:i<n):ld1 (slH o) (.ptr 1 1 i n)=some (.d (.int .u32 ((nth 0 o i:Nat):Int))):=ldB 0 (f:=u32) rfl hn hi
theorem acl(hn:o.length=n)(hi:i<n):st (slH o) 1 (.ptr 1 1 i n) (.d (.int .u32 (x:Int)))=some (slH (o.set i x)):=stB (f:=u32) rfl hn hi (x:=x) rfl
theorem JU{L:LnQ}(hL:aw W L)(hLl:L.length<1000000000000){w r N:Nat}(hw:w<1000000000000)(hr:r<32)(hN:N=w+L.length+1)(k:KL)(h0:Hp)(hh:h0.length=2):∀(q p d:LnQ)(c:Nat),L=p++q->d.length=p.length->aw W d->c<2^r->val W (d++[c])=val W p*2^r ->
  (∀o:LnQ,o.length=N->aw W o->val W o=W^w*(val W L*2^r)->k (.exit 2) [] (slH o)) ->
  lp (oi (CX Y) (I w) (.d (.int .u64 r)) (.ref 1 1 0 N N N) (lst u32 L) (I L.length)) [] h0 [I p.length] (slH (List.replicate w 0++(d++c::List.replicate q.length 0))) k
 | []=>by
  intro p d c hp hd hs hc hv hk;simp at hp;subst hp;refine ai ?_;simp(disch:=try exact ac)[oi]
  have h32:2^r<W:=by
   have:2^r<2^32:=Nat.pow_lt_pow_right ae hr;exact this
  refine hk _ ak ?_ ?_
  .refine aw.append (fun y hy=>by rw[Xl]at hy;rw[hy.2];exact vH) (hs.snoc aa)
  .rw[val_append,rL,Yn,hv,Zn]
 | x::q=>by
  intro p d c hp hd hs hc hv hk;have hx:=aaN (hL x (by subst hp;simp));have hpl:p.length<L.length:=by subst hp;simp
  have hLx:nth 0 L p.length=x:=by subst hp;simp
  have hll:L.length=p.length+(q.length+1):=by subst hp;simp
  have h31:2^r<=2147483648:=by
   have:2^r<=2^31:=Z6 ae aa;exact this
  obtain⟨y,hy⟩:=mnQ (x*2^r);have hyle:y<=4294967295*2147483648:=by rw[<-hy];exact Zg aa h31
  have hyi:(x:Int)*2^r=(y:Int):=by rw[<-hy];simp
  obtain⟨m,hm⟩:=nmQ (w+p.length);have e1:((w:Int)+(p.length:Int))=(m:Int):=aa;obtain⟨m1,hm1⟩:=nmQ (m+1);have e2:((m:Int)+1)=(m1:Int):=aa;have h2r:=Zp r
  have hlow:y%4294967296=2^r*((x%2^(32-r))):=by
   rw[<-hy,<-CJ (show r<=32 by omega),Zw x,Xb]
  have hor:=MC (c:=c) (j:=r) (t:=x%2^(32-r)) hc;rw[<-hlow]at hor
  have hhi:y/4294967296<2^r:=by
   refine Y8 ?_;rw[<-hy];exact Xp hx h2r
  have hcW:c<4294967296:=aa;have hyW:y%4294967296<4294967296:=Zk _ ae;have hob:=Us hcW hyW;have huW:c|||y%4294967296<4294967296:=Nat.or_lt_two_pow (n:=32) hcW hyW;rw[hor]at hob huW;obtain⟨u,hu⟩:=mnQ (c+y%4294967296);obtain⟨v,hv2⟩:=mnQ (y/4294967296);rw[hu]at hob huW;rw[hv2]at hhi
  have hyi2:(y:Int)%4294967296=((y%4294967296:Nat):Int):=aa;obtain⟨y0,hy0⟩:=mnQ (y%4294967296);have hyv:(y:Int)/4294967296=(v:Int):=aa;rw[hy0]at hob hyi2;have hwr1:IntKind.wrap .u32 (y:Int)=(y0:Int):=by rw[wrap_u32',hyi2]
  have hset1:(List.replicate w 0++(d++c::0::List.replicate q.length 0)).set m u=List.replicate w 0++(d++u::0::List.replicate q.length 0):=by
   rw[hm,X9 _ _ af,Yn,X9 _ _ aa];rw[show w+p.length-w-d.length=0 by omega];rfl
  have hset2:(List.replicate w 0++(d++u::0::List.replicate q.length 0)).set m1 v=List.replicate w 0++((d++[u])++v::List.replicate q.length 0):=by
   rw[hm1,hm,X9 _ _ ak,Yn,X9 _ _ aa];rw[show w+p.length+1-w-d.length=1 by omega];simp
  have hnth:nth 0 (List.replicate w 0++(d++c::0::List.replicate q.length 0)) m=c:=by
   unfold nth;rw[Zz,hm,List.getElem?_append_right af,Yn,List.getElem?_append_right aa];rw[show w+p.length-w-d.length=0 by omega];rfl
  have hl1:∀a b:Nat,(List.replicate w 0++(d++a::b::List.replicate q.length 0)).length=N:=fun a b=>by simp;omega
  have sI:=fun a b=>slI (hl1 a b) (i:=m) aa
  have sI2:=fun a b=>slI (hl1 a b) (i:=m1) aa
  have sL:=slL (hl1 c 0) (i:=m) aa;have sS:=acl (x:=u) (hl1 c 0) (i:=m) aa;have sS2:=acl (x:=v) (hl1 u 0) (i:=m1) aa;rw[hnth]at sL;rw[hset1]at sS;rw[hset2]at sS2
  have ih:=JU hL hLl hw hr hN k h0 hh q (p++[x]) (d++[u]) v (by simpa using hp) (by simp[hd]) (hs.snoc huW) hhi (by
   have hW:W=4294967296:=rfl;rw[kq,hd]at hv;rw[kq,kq,kq,Zo,hd,List.length_singleton,Nat.pow_succ,Nat.add_mul,<-hv];have e:W^p.length*x*2^r=W^p.length*y:=by rw[Nat.mul_assoc,hy]
   rw[e,Nat.mul_assoc,Nat.add_assoc,<-Nat.mul_add,Nat.add_assoc,<-Nat.mul_add];congr 2;rw[<-hu,<-hv2,hW,hy0];omega) hk
  refine ai ?_;rw[List.length_cons,List.replicate_succ];simp(disch:=try exact ac)[oi,hLx,hyi,e1,e2,sI,sI2,sL,hwr1,hob,sS,sS2,hyv,hh];simpa using ih
theorem AI(ha:len a<100000000000)(hn:n<100000000000):CP Y F.bH [nat a,I n] (nat (a*2^n)):=by
 refine vG ?_;have hL:=aJ bT a;have hv:=bG bT a;unfold len at ha;unfold nat;generalize dig W a=L at *;obtain⟨w,hw⟩:=mnQ (n/32);obtain⟨r,hr⟩:=mnQ (n%32);have e1:(n:Int).tdiv 32=(w:Int):=by rw[Z1 aa];omega
 have e2:(n:Int).tmod 32=(r:Int):=by rw[Z4 aa];omega
 have hr32:r<32:=aa;obtain⟨N,hN⟩:=nmQ (w+L.length+1);have e3:((w:Int)+(L.length:Int)+1)=(N:Int):=aa;simp(disch:=try exact ac)[bH,e1,e2,e3]
 have e0:List.replicate N (D.int IntKind.u32 0)=(List.replicate w 0++([]++0::List.replicate L.length 0)).map u32:=by
  have:List.replicate w 0++([]++0::List.replicate L.length 0)=List.replicate N 0:=by
   rw[List.nil_append,<-List.replicate_succ,Xx];congr 1;omega
  rw[this];simp[u32]
 rw[e0];refine lo (JU hL aa (w:=w) aa hr32 hN _ _ rfl L [] [] 0 rfl rfl (fun x hx=>by simp at hx) (Zp r) (by simp[val]) fun o h1 h2 h3=>?_)
 have hval:val W o=a*2^n:=by
  have hn32:n=32*w+r:=aa;have hWw:W^w=2^(32*w):=by rw[Xc];rfl
  rw[h3,hv,hWw,hn32,Zr,Yt]
 have h50:(2:Nat)^50=1125899906842624:=ae;have ht:=xk h2 aa;rw[hval]at ht;simp(disch:=try exact ac)[slH];refine cdz (ds:=[lst u32 o]) (h':=[nnQ,(1,.data 1 (o.map u32) true true)]) ?_ ht ?_
 .simp[av,aP,toD,aH,h1,lst];rw[Z0 (by simp[h1])]
 .exact rD ..
theorem HV(ha:len a<100000000000)(h0:0<n)(hn:n<100000000000):CP Y F.bH [nat a,I (-(n:Int))] (nat (a/2^n)):=by
 refine vG ?_;have hL:=aJ bT a;have hv:=bG bT a;have hlt:a<W^(dig W a).length:=(gZ bT).1 (Z7 _);unfold len at ha;unfold nat;generalize dig W a=L at *;obtain⟨w,hw⟩:=mnQ (n/32);obtain⟨r,hr⟩:=mnQ (n%32);have e1:(n:Int).tdiv 32=(w:Int):=by rw[Z1 aa];omega
 have e2:(n:Int).tmod 32=(r:Int):=by rw[Z4 aa];omega
 have hr32:r<32:=aa;have hWw:W^w=2^(32*w):=by rw[Xc];rfl
 have hn32:n=32*w+r:=aa;have hneg : -(n:Int)<0:=aa;by_cases hwl:L.length<=w
 .simp(disch:=try exact ac)[bH,e1,e2]
  have hz:a/2^n=0:=by
   refine Zh (Z3 hlt ?_);have h1:W^L.length<=W^w:=Z6 vH hwl;have h2:2^(32*w)<=2^n:=Z6 ae aa;omega
  rw[hz,pS];exact⟨_,by simp[lst];rfl⟩
 .have hdl:0<(L.drop w).length:=by simp;omega
  have hdn:(L.drop w).length<1000000000000:=by simp;omega
  simp(disch:=try exact ac)[bH,e1,e2];refine dX (eU (s:=0) (e:=0) (b:=.none) (LC (h:=[nnQ,nnQ]) (by simp[aT]) hdl hdn) rfl ?_);simp(disch:=try exact ac);have hps:=DR (r:=r) aa (l:=L.drop w) (hL.drop w);have hpv:=JP (r:=r) aa (L.drop w);have hpl:=JQ r (L.drop w)
  have hdv:val W (L.drop w)=a/W^w:=by
   have hap:=val_append (B:=W) (L.take w) (L.drop w);rw[Ys,hv,Zm,Yy aa]at hap;have htl:=gr vH (hL.take w);rw[Zm,Yy aa]at htl;rw[hap,Yx _ _ (Yq vH),Zh htl,Zn]
  have hval:val W (xM r (L.drop w))=a/2^n:=by
   have:val 4294967296 (xM r (L.drop w))=a/2^n:=by
    rw[hpv,show val 4294967296 (L.drop w)=a/W^w from hdv,Ze,hWw,hn32,Zr]
   exact this
  rw[<-List.map_drop];refine lo (JO hL aa (w:=w) hr32 (n:=L.length-w) _ _ rfl (L.drop w) [] [] rfl rfl af ?_);rw[Yz]at hpl;generalize xM r (L.drop w)=o at *;have h50:(2:Nat)^50=1125899906842624:=ae;have ht:=xk hps aa;rw[show val W o=a/2^n from hval]at ht;simp(disch:=try exact ac)[shH]
  refine cdz (ds:=[lst u32 o]) (h':=[(1,.data 1 (o.map u32) false true),nnQ]) ?_ ht ?_
  .simp[av,aP,toD,aH,hpl,lst];rw[Z0 (by simp[hpl])]
  .exact rD ..
theorem wZ(h:bln a<=32*k):len a<=k:=by refine pj ?_;have h1:=yQ a;have h2:2^bln a<=2^(32*k):=Z6 ae h;rw[Xc]at h2;exact Z3 h1 h2
theorem Ce(a:Nat):bln a<=32*len a:=by
 refine rS ?_;have:a<W^(dig W a).length:=(gZ bT).1 (Z7 _);have hW:W^(dig W a).length=2^(32*(dig W a).length):=by rw[Xc];rfl
 rw[hW]at this;exact this
theorem pM(h:a<=b):len a<=len b:=pj (Zu h ((gZ bT).1 (Z7 _)))
theorem vf:nat 1=.d (.sl 1 [.int .u32 1]):=by rfl
theorem OV(b j:Nat):bln (b*2^j)<=bln b+j:=by simp[rS,Zr,yQ,Zp]
theorem LK(h:a<=b):bln a<=bln b:=rS (Zu h (yQ b))
def isN(v:V)(n:Nat):Prop:=v=nat n∨(n=0∧v=.d nPQ)
theorem qP{v:V}(h:isN v n)(hp:Hp):aP hp v=some (nat n,hp):=by
 rcases h with rfl|⟨rfl,rfl⟩
 .simp
 rfl
theorem Cb{b:Nat}(hb:0<b)(M:Nat)(hM:M<2000000000)(hbM:len b<=M)(k:KL):∀(j a q:Nat)(v:V),a<b*2^j->bln b+j<=32*M->isN v q->len (q+a/b)<1000000000->(∀v2,isN v2 (q+a/b)->k (.exit 0) [nat (a%b),v2] []) ->
  lp (kK (CX Y) (nat b)) [] [] [nat a,v,I ((j:Int)-1)] [] k
 | 0,a,q,v,ha,hj,hv,hqa,hk=>by
  refine ai ?_;simp(disch:=try exact ac)[kK];rw[Nat.pow_zero,Y0]at ha;rw[Zj ha,Zh ha,Nat.add_zero]at hk;exact hk v hv
 | j+1,a,q,v,ha,hj,hv,hqa,hk=>by
  have h40:(2:Nat)^40=1099511627776:=ae;have hp1:len (b*2^j)<=M:=wZ (by have:=OV b j;omega);have hp2:len a<=M:=wZ (by have:=LK (Xs ha);have:=OV b (j+1);omega);have hsh:=AI (a:=b) (n:=j) aa aa;have hor:=oI (a:=a) (b:=b*2^j) aa aa;have e1:(((j+1:Nat):Int)-1)=(j:Int):=aa
  have hstep:=TS (a:=a) (b:=b) (n:=j) hb;have ih:=Cb hb M hM hbM k j;have hlq:len q<1000000000:=Zu (pM (Nat.le_add_right _ _)) hqa;rw[Nat.pow_succ,<-Nat.mul_assoc]at ha;refine ai ?_;rw[e1];generalize hc:b*2^j=c at *;simp(disch:=try exact ac)[kK];refine aE ?_;simp(disch:=try exact ac)
  refine cd hsh ?_;simp(disch:=try exact ac);refine cd hor ?_;by_cases hca:c<=a
  .have hcm:(0:Int)<=cmp a c:=by unfold cmp;rw[if_neg aa];split<;>omega
   obtain⟨s1,s2⟩:=hstep hca;have h2j:len (q+2^j)<1000000000:=Zu (pM (by rw[s1];exact Nat.add_le_add_left (Nat.le_add_right _ _) _)) hqa;have h2j2:len (2^j)<1000000000:=Zu (pM (Nat.le_add_left _ _)) h2j;have hone:=AI (a:=1) (n:=j) (by have:=pj (n:=1) (k:=1) ae;omega) aa;rw[Ye,vf]at hone
   have hli:fj 1 [D.int IntKind.u32 0] [(0,.d (.int .u32 1))] []=some ([.int .u32 1],[]):=by simp[fj,fS,hO,toD]
   simp(disch:=try exact ac)[hcm];refine aE ?_;simp(disch:=try exact ac)[hcm];refine cd (Ix hca aa) ?_;simp(disch:=try exact ac);rw[hli];simp(disch:=try exact ac);refine cd hone ?_;simp(disch:=try exact ac)
   refine cdx (ds:=[nat q,nat (2^j)]) (by simp[av,qP hv]) (xw (a:=q) (b:=2^j) aa aa) ?_;simp(disch:=try exact ac);refine ih (a-c) (q+2^j) _ aa aa (.inl rfl) (by rw[s1,<-Nat.add_assoc]at hqa;exact hqa) (fun v2 hv2=>?_);rw[<-s2];exact hk v2 (by rw[s1,<-Nat.add_assoc];exact hv2)
  .have hcm:¬(0:Int)<=cmp a c:=by unfold cmp;rw[if_pos aa];omega
   simp(disch:=try exact ac)[hcm];refine aE ?_;simp(disch:=try exact ac)[hcm];exact ih a q v aa aa hv hqa hk
theorem Qr(hb:0<b)(ha:len a<1000000000)(hbl:len b<1000000000):CP Y F.lK [nat a,nat b] (.tup [nat (a/b),nat (a%b)]):=by
 refine Bz ?_;have h40:(2:Nat)^40=1099511627776:=ae;have hba:=Ce a;have hbb:=Ce b;have hb1:=I5 (a:=a) aa;have hb2:=I5 (a:=b) aa;have hqa:len (a/b)<1000000000:=Zu (pM (Y5 _ _)) ha
 have hout:∀v2,isN v2 (0+a/b)->∀h,out (.tup [nat (a/b),nat (a%b)]) (.tup [v2,nat (a%b)]) h:=fun v2 hv h=>by
  rw[Zn]at hv;exact⟨h,by simp[aP,av,qP hv]⟩
 simp(disch:=try exact ac)[lK];refine cd hb1 ?_;simp(disch:=try exact ac);refine cd hb2 ?_;simp(disch:=try exact ac);by_cases h:bln b<=bln a
 .have e:((bln a:Int)-(bln b:Int))=((bln a-bln b+1:Nat):Int)-1:=aa;rw[e];refine lo (Cb hb (len a+1) aa (wZ aa) _ (bln a-bln b+1) a 0 _ ?_ aa (.inr ⟨rfl,rfl⟩) (by rw[Zn];exact hqa) fun v2 hv=>?_)
  .have h1:=yQ a;have h2:=I4 (n:=b) aa;have h3:=Dc (n:=b) aa;have h4:=Zx (2^(bln a-bln b+1)) h2;rw[<-Zr,show bln b-1+(bln a-bln b+1)=bln a by omega]at h4;omega
  .simp(disch:=try exact ac);exact hout v2 hv _
 ·have hab:a<b:=by
   rcases Zf a b with h1|h1
   .exact h1
   .have:=LK h1;omega
  refine lo (ai ?_);have g:¬(0:Int)<=(bln a:Int)-(bln b:Int):=aa;simp(disch:=try exact ac)[kK,g];have:=hout (.d nPQ) (.inr ⟨by rw[Zh hab],rfl⟩);rw[Zj hab]at this ⊢;exact this _
theorem Lw(k:KL):∀(b a:Nat),len a<1000000000->len b<1000000000->k (.exit 0) [nat (Nat.gcd a b)] []->lp (nf (CX Y)) [] [] [nat a,nat b] [] k:=by
 intro b
 induction b using Nat.strongRecOn with
 | _ b ih=>
  intro a ha hb hk;refine ai ?_;by_cases h0:b=0
  .subst h0;have hz:aj (nat 0)=some (I 0):=rfl;rw[Wz]at hk;simp(disch:=try exact ac)[nf,hz];exact hk
  .have hl:aj (nat b)=some (I (len b)):=rfl;have hp:=zE.2 (Xu h0);have hm:=Zk a (Xu h0);simp(disch:=try exact ac)[nf,hl];refine cd (Qr (Xu h0) ha hb) ?_;simp(disch:=try exact ac);refine ih (a%b) hm b hb (Zu (pM (Xs hm)) hb) ?_
   rw[X2 b,<-V8,X2];exact hk
theorem Hr(ha:len a<1000000000)(hb:len b<1000000000):CP Y F.jU [nat a,nat b] (nat (Nat.gcd a b)):=by refine BA ?_;unfold jU;refine Lw _ b a ha hb ?_;simp(disch:=try exact ac);exact rD ..
def rdT(s:LuQ):LuQ:=if s.headD 0=45 then s.tail else s
def rdN(s:LuQ):Bool:=decide (s.headD 0=45)
def rd(s:LuQ):Option Int:=if(rdT s).length<=400 then rdS s else none
theorem N7(s:LuQ):rd s=if(rdT s).length<=400∧rdT s≠[]∧¬((rdT s).headD 0=48∧(1<(rdT s).length∨rdN s=true))∧(rdT s).all oL=true then some (if rdN s=true then -(c8 0 (rdT s):Int)else(c8 0 (rdT s):Int))else none:=by
 unfold rd rdS
 have hcan:∀t:LuQ,qX t=true↔t≠[]∧t.all oL=true∧¬(1<t.length∧t.headD 0=48):=fun t=>by
  simp[qX,and_assoc];intro _ _;constructor
  .rintro(h|h) g
   .omega
   omega
  .intro h;by_cases g:1<t.length
   .grind
   .exact .inl aa
 by_cases h:s.headD 0=45
 .have e1:rdT s=s.tail:=by unfold rdT;rw[if_pos h]
  have e2:rdN s=true:=by unfold rdN;simpa using h
  rw[e1,e2,if_pos h];generalize s.tail=t;by_cases h1:t.length<=400
  .simp only[h1,if_true,true_and,hcan];by_cases h2:t≠[]∧¬(t.headD 0=48∧(1<t.length∨True))∧t.all oL=true
   .grind
   .rw[if_neg h2,if_neg];rintro⟨⟨a,b,c⟩,d⟩;refine h2 ⟨a,fun x=>?_,b⟩;by_cases g:1<t.length
    .grind
    .apply d;cases t with
     |nil=>trivial
     | cons y t=>
      grind
  grind
 .have e1:rdT s=s:=by unfold rdT;rw[if_neg h]
  have e2:rdN s=false:=by unfold rdN;simpa using h
  grind
theorem zF(h:n<10^k):len n<=k:=by refine pj (Z3 h (W8 ae k))
theorem VE:nat 10=.d (.sl 1 [.int .u32 10]):=by rfl
def rdH(neg:Bool)(x:V):Hp:=[(1,.vars [.d (.bool false),.d nPQ]),(1,.vars [.d (.bool neg),x])]
@[simp]theorem adW(n:Nat):okV (nat n)=true:=id rfl
theorem MV{v:V}(h:isN v n):okV v=true:=by rcases h with rfl|⟨_,rfl⟩<;>rfl
theorem GJ(neg:Bool)(k:KL)(h0:Hp)(hh:h0.length=2):∀(q a:LuQ)(x:V),(a++q).length<=400->c8 0 a<10^a.length->isN x (c8 0 a) ->
  (q.all oL=true->∀x',isN x' (c8 0 (a++q))->k (.exit 0) [] (rdH neg x'))->(q.all oL=false->∀x',k .ret [B false] (rdH neg x')) ->
  lp (gW (CX Y) (.ptr 0 1 0 2) (S (a++q)) (.ptr 1 1 0 2) (I (a++q).length)) [] h0 [I a.length] (rdH neg x) k
 | []=>by
  intro a x hN ha hx h1 h2;refine ai ?_;simp(disch:=try exact ac)[gW];exact h1 rfl x (by simpa using hx)
 | b::q=>by
  intro a x hN ha hx h1 h2;have h40:(2:Nat)^40=1099511627776:=ae;have hix:ixS (S (a++b::q)) (.d (.int .i64 (a.length:Int)))=some (.d (.int .u8 b.toNat)):=MU _ aa af;have hb256:=b.toNat_lt;have hok:=MV hx;simp at hN;refine ai ?_;by_cases hd:oL b=true
  .have hb:=jM.1 hd;obtain⟨d,hd2⟩:∃d,b.toNat=48+d:=⟨b.toNat-48,aa⟩;have hdi:(b.toNat:Int)-48=d:=aa;have hla:=zF ha;have hla10:c8 0 a*10<10^(a.length+1):=by rw[Nat.pow_succ];omega
   have hlb:=zF hla10;have hl10:=pj (n:=10) (k:=1) ae;have hld:=pj (n:=d) (k:=1) (by simp only[W];omega);have hn1:c8 0 (a++[b])=c8 0 a*10+d:=by rw[rF,iZ,Bb];omega
   have ih:=GJ neg k h0 hh q (a++[b]) (nat (c8 0 a*10+d)) ak (by rw[hn1,Zo,List.length_singleton,Nat.pow_succ];omega) (by rw[hn1];exact .inl rfl) (fun g=>by simpa using h1 (by simp[g,hd])) (fun g=>h2 (by simp[g]));generalize c8 0 a=n at *;have hpr:=qo (a:=n) (b:=10) aa aa;have hof:=Kp (n:=d) aa
   have hpl:=xw (a:=n*10) (b:=d) aa aa;have hli:∀h,fj 1 [D.int IntKind.u32 0] [(0,.d (.int .u32 10))] h=some ([.int .u32 10],h):=fun h=>by simp[fj,fS,hO,toD]
   clear h1 h2;simp(disch:=try exact ac)[gW,hix,show ¬(b.toNat:Int)<48 by omega,show ¬(57:Int)<b.toNat by omega,rdH];rw[hli];simp(disch:=try exact ac);rw[<-VE];refine cdx (ds:=[nat n,nat 10]) (by simp[av,qP hx]) hpr ?_;simp(disch:=try exact ac)[hix,hdi];refine cd hof ?_
   simp(disch:=try exact ac);refine cd hpl ?_;simp(disch:=try exact ac)[eZ,hh];simpa[rdH,eZ]using ih
  .have hnd:¬(48<=b.toNat∧b.toNat<=57):=fun g=>hd (jM.2 g)
   have:=h2 (by simp[hd]) x;clear h1 h2;by_cases g1:b.toNat<48
   .simp(disch:=try exact ac)[gW,hix,show(b.toNat:Int)<48 by omega,rdH];simpa[rdH]using this
   .simp(disch:=try exact ac)[gW,hix,show ¬(b.toNat:Int)<48 by omega,show(57:Int)<b.toNat by omega,rdH];simpa[rdH]using this
def rdO(T:LuQ)(neg:Bool):Option Int:=if T.length<=400∧T≠[]∧¬(T.headD 0=48∧(1<T.length∨neg=true))∧T.all oL=true then some (if neg=true then -(c8 0 T:Int)else(c8 0 T:Int))else none
def rdV(o:Option Int):V:=.tup [fH (o.getD 0),B o.isSome]
def DZ(v:V):LwQ->Hp->Prop:=fun l9 h=>
  bnd (biS .eql (ge l9 0) (.d (.str []))) fun v11=>
  gd v11 false h (fun q=>q (ge l9 0) h) fun v12 h=>
  gd v11 false h (fun q=>bnd (ixS v12 (.d (.int .i64 0))) fun v=>q v h) fun v13 h=>
  gd v11 false h (fun q=>bnd (biI .eql v13 (.d (.int .u8 48))) fun v=>q v h) fun v14 h=>
  gd v11 false h (fun q=>q v14 h) fun v15 h=>
  gd v15 true h (fun q=>q (ge l9 0) h) fun v16 h=>
  gd v15 true h (fun q=>bnd (ij v16) fun v=>q v h) fun v17 h=>
  gd v15 true h (fun q=>bnd (biI .gtr v17 (.d (.int .i64 1))) fun v=>q v h) fun v18 h=>
  gd v15 true h (fun q=>q v18 h) fun v19 h=>
  gd v19 false h (fun q=>bnd (faV 0 (.ptr 1 1 0 2)) fun v=>q v h) fun v20 h=>
  gd v19 false h (fun q=>bnd (ld1 h v20) fun v=>q v h) fun v21 h=>
  gd v15 true h (fun q=>bnd (aA v19 (.d (.bool true)) v21) fun v=>q v h) fun v22 h=>
  gd v11 false h (fun q=>bnd (aA v15 v22 (.d (.bool false))) fun v=>q v h) fun v23 h=>
  bnd (aA v11 (.d (.bool true)) v23) fun v24=>
  gd v24 false h (fun q=>q (ge l9 0) h) fun v25 h=>
  gd v24 false h (fun q=>bnd (ij v25) fun v=>q v h) fun v26 h=>
  gd v24 false h (fun q=>bnd (biI .gtr v26 (.d (.int .i64 400))) fun v=>q v h) fun v27 h=>
  bnd (aA v24 (.d (.bool true)) v27) fun v28=>
  cnd v28 (
   bnd (bld [(0,1),(1,1)] [.bool false,nPQ] []) fun v29=>
   stD h 2 (.ptr 0 1 0 2) v29 fun _ h=>
   bnd (ldA h 2 (.ptr 0 1 0 2)) fun v31=>
   out v (.tup [v31,(.d (.bool false))]) h) (
   bnd (ij (ge l9 0)) fun v32=>
   lp (gW (CX Y) (.ptr 0 1 0 2) (ge l9 0) (.ptr 1 1 0 2) v32) [] h [(.d (.int .i64 0))] h (exK [((.exit 0),fun l33 h=>
    bnd (ldA h 2 (.ptr 1 1 0 2)) fun v34=>
    stD h 2 (.ptr 0 1 0 2) v34 fun _ h=>
    bnd (ldA h 2 (.ptr 0 1 0 2)) fun v36=>
    out v (.tup [v36,(.d (.bool true))]) h),
    (.ret,fun l33 h=>
    bnd (ldA h 2 (.ptr 0 1 0 2)) fun v37=>
    out v (.tup [v37,(ge l33 0)]) h)]))
theorem wO(h:Hp):out (rdV none) (.tup [.agg [.d (.bool false),.d nPQ],.d (.bool false)]) h:=⟨h,by rfl⟩
theorem PN(T:LuQ)(neg:Bool):DZ (rdV (rdO T neg)) [S T] (rdH neg (.d nPQ)):=by
 have hno:¬(T.length<=400∧T≠[]∧¬(T.headD 0=48∧(1<T.length∨neg=true))∧T.all oL=true)->rdO T neg=none:=fun h=>by unfold rdO;rw[if_neg h]
 cases T with
 | nil=>
  rw[hno af];simp(disch:=try exact ac)[DZ,rdH];exact wO _
 | cons b t=>
  have hix:ixS (S (b::t)) (.d (.int .i64 0))=some (.d (.int .u8 b.toNat)):=rfl
  have hb48:(b.toNat:Int)=48↔b=48:=by
   constructor
   .intro h;apply UInt8.toNat.inj;simpa using(by omega:b.toNat=48)
   .rintro rfl;rfl
  by_cases hP:(b=48∧(1<(b::t).length∨neg=true))
  .rw[hno (by rintro⟨_,_,h,_⟩;exact h hP)];obtain⟨h1,h2⟩:=hP;have e48:=hb48.2 h1;by_cases h3:1<(b::t).length
   .have h3':(0:Int)<(t.length:Int):=by simp at h3;omega
    simp(disch:=try exact ac)[DZ,hix,e48,h3,h3',rdH];exact wO _
   .have h4:neg=true:=by rcases h2 with h|h;exact absurd h h3;exact h
    subst h4;have h3':t=[]:=Zt (by simp only[List.length_cons]at h3;omega);subst h3';simp(disch:=try exact ac)[DZ,hix,e48,rdH];exact wO _
  ·have main:¬400<(b::t).length->lp (gW (CX Y) (.ptr 0 1 0 2) (S (b::t)) (.ptr 1 1 0 2) (I (b::t).length)) [] (rdH neg (.d nPQ)) [(.d (.int .i64 0))] (rdH neg (.d nPQ)) (exK [((.exit 0),fun l33 h=>
     bnd (ldA h 2 (.ptr 1 1 0 2)) fun v34=>
     stD h 2 (.ptr 0 1 0 2) v34 fun _ h=>
     bnd (ldA h 2 (.ptr 0 1 0 2)) fun v36=>
     out (rdV (rdO (b::t) neg)) (.tup [v36,(.d (.bool true))]) h),
     (.ret,fun l33 h=>
     bnd (ldA h 2 (.ptr 0 1 0 2)) fun v37=>
     out (rdV (rdO (b::t) neg)) (.tup [v37,(ge l33 0)]) h)]):=by
    intro hl;refine GJ neg _ _ rfl (b::t) [] _ (by simp only[List.nil_append];omega) af (.inr ⟨rfl,rfl⟩) (fun g x' hx'=>?_) (fun g x'=>?_)
    .have hok:=MV hx'
     have hr:rdO (b::t) neg=some (if neg=true then -(c8 0 (b::t):Int)else(c8 0 (b::t):Int)):=by
      unfold rdO;rw[if_pos ⟨aa,af,by simpa using hP,g⟩]
     rw[hr]
     have hz:neg=true->c8 0 (b::t)≠0:=by
      intro hn;have hb48':b≠48:=fun e=>hP ⟨e,.inr hn⟩
      simp only[List.all_cons,Z8]at g;have hb:=jM.1 g.1;have hlo:=zL t (b.toNat-48);have hb0:b.toNat≠48:=fun e=>hb48' (hb48.1 aa)
      have hp:1<=10^t.length:=Yq ae;have:=Zg (show 1<=b.toNat-48 by omega) hp;rw[iZ,X5,Zn];omega
     simp only[List.nil_append]at hx';generalize c8 0 (b::t)=n at *;simp(disch:=try exact ac)[rdH,hok];refine pd ?_;simp only[aP,av,qP hx',rdV,Option.getD_some,Wd,PZ]
     have:fH (if neg=true then -(n:Int)else(n:Int))=.agg [.d (.bool neg),nat n]:=by
      cases neg
      .refine xE af af
      .have:=hz rfl;refine xE af ak
     rw[this]
    .rw[hno (by rintro⟨_,_,_,h⟩;rw[g]at h;cases h)];simp(disch:=try exact ac)[rdH];exact wO _
   by_cases h48:b=48
   .have hl1:¬1<(b::t).length:=fun h=>hP ⟨h48,.inl h⟩
    have hn0:neg=false:=by cases neg;rfl;exact absurd ⟨h48,.inr rfl⟩ hP
    have h3':t=[]:=Zt (by simp only[List.length_cons]at hl1;omega);subst h48;subst hn0;subst h3';have:=main af;have e:((48:UInt8).toNat:Int)=48:=rfl;simp(disch:=try exact ac)[DZ,hix,e,rdH];simpa[rdH]using this
   .have e48:¬(b.toNat:Int)=48:=fun h=>h48 (hb48.1 h)
    by_cases hl:400<(b::t).length
    .rw[hno (by rintro⟨h,_⟩;omega)];have hl':(400:Int)<(t.length:Int)+1:=by simp only[List.length_cons]at hl;omega
     simp(disch:=try exact ac)[DZ,hix,e48,hl',rdH];exact wO _
    .have:=main hl;have hl':¬(400:Int)<(t.length:Int)+1:=by simp only[List.length_cons]at hl;omega
     simp(disch:=try exact ac)[DZ,hix,e48,hl',rdH];simpa[rdH]using this
theorem CK(s:LuQ):CP Y F.fK [S s] (rdV (rd s)):=by
 have he:rd s=rdO (rdT s) (rdN s):=N7 s;rw[he];refine E7 ?_;have ht:=PN (rdT s) (rdN s);cases s with
 | nil=>
  simp(disch:=try exact ac)[fK];refine dy (l:=[S []]) (h:=rdH false (.d nPQ)) (fun q=>?_) ht;simp(disch:=try exact ac)[rdH]
 | cons b t=>
  have hix:ixS (S (b::t)) (.d (.int .i64 0))=some (.d (.int .u8 b.toNat)):=rfl;by_cases h:b=45
  .subst h;have e:((45:UInt8).toNat:Int)=45:=rfl;simp(disch:=try exact ac)[fK,hix,e];refine dy (l:=[S t]) (h:=rdH true (.d nPQ)) (fun q=>?_) ht;simp(disch:=try exact ac)[rdH]
  .have e:¬(b.toNat:Int)=45:=fun g=>h (by apply UInt8.toNat.inj;simpa using(by omega:b.toNat=45))
   have e1:rdT (b::t)=b::t:=by simp[rdT,h]
   have e2:rdN (b::t)=false:=by simp[rdN,h]
   rw[e1,e2]at ht ⊢;simp(disch:=try exact ac)[fK,hix,e];refine dy (l:=[S (b::t)]) (h:=rdH false (.d nPQ)) (fun q=>?_) ht;simp(disch:=try exact ac)[rdH]
def frL(z:Int)(d:Nat):LwQ:=[.d (.bool (decide (z<0))),.d (hQ z.natAbs),.d (hQ d)]
def pF(z:Int)(d:Nat):V:=.agg (frL z d)
theorem uf(h:rd s=some z):z.natAbs<10^400:=by
 rw[N7]at h;split at h
 .rename_i hc;simp only[Z9]at h;have hi:=ul (rdT s) 0 hc.2.2.2;have:c8 0 (rdT s)<10^400:=Z3 hi (by set_option exponentiation.threshold 1000 in rw[Zn,Ye];exact Z6 ae hc.1)
  have hz:z.natAbs=c8 0 (rdT s):=by
   rw[<-h];split<;>simp
  rw[hz];exact this
 .cases h
theorem Mu(h:rd s=some z):len z.natAbs<=400:=zF (uf h)
def rdF(a b:LuQ):Option (Int×Nat):=match rd a,rd b with
 |some n,some d=>if 0<d∧Nat.gcd n.natAbs d.natAbs=1 then some (n,d.natAbs)else none
 |_,_=>none
def Mw(o:Option (Int×Nat)):V:=.tup [pF (o.getD (0,0)).1 (o.getD (0,0)).2,B o.isSome]
theorem zo(h:Hp):out (Mw none) (.tup [.agg [.d (.bool false),.d nPQ,.d nPQ],.d (.bool false)]) h:=⟨h,by simp[Mw,aP,av,pF,frL,xy]⟩
theorem Ka(a b:LuQ):CP Y F.fD [.agg [S a,S b]] (Mw (rdF a b)):=by
 refine CB ?_;have h40:(2:Nat)^40=1099511627776:=ae;have ra:=CK a;have rb:=CK b;cases ha:rd a with
 | none=>
  have hF:rdF a b=none:=by simp[rdF,ha]
  rw[hF];rw[ha]at ra;simp(disch:=try exact ac)[fD];refine cd ra ?_;simp(disch:=try exact ac)[rdV,fH,jZ];refine cd rb ?_;simp(disch:=try exact ac)[rdV,fH,jZ];exact zo _
 | some n=>
  have hnl:=Mu ha;rw[ha]at ra;cases hb:rd b with
  | none=>
   have hF:rdF a b=none:=by simp[rdF,ha,hb]
   rw[hF];rw[hb]at rb;simp(disch:=try exact ac)[fD];refine cd ra ?_;simp(disch:=try exact ac)[rdV,fH,jZ];refine cd rb ?_;simp(disch:=try exact ac)[rdV,fH,jZ];exact zo _
  | some d=>
   have hdl:=Mu hb;rw[hb]at rb;by_cases hd0:0<d
   .have hde:d.natAbs=d:=aa;have hdp:¬len d.natAbs=0:=by have:=zE (n:=d.natAbs);omega
    have hdn:¬d<0:=aa;have hli:∀h,fj 1 [D.int IntKind.u32 0] [(0,.d (.int .u32 1))] h=some ([.int .u32 1],h):=fun h=>by simp[fj,fS,hO,toD]
    have hco:=Hr (a:=n.natAbs) (b:=d.natAbs) aa aa;have hgl:len (Nat.gcd n.natAbs d.natAbs)<=len d.natAbs:=pM (Nat.gcd_le_right _ aa);have hor:=oI (a:=Nat.gcd n.natAbs d.natAbs) (b:=1) aa (by have:=pj (n:=1) (k:=1) ae;omega);have hF:rdF a b=if Nat.gcd n.natAbs d.natAbs=1 then some (n,d.natAbs)else none:=by simp[rdF,ha,hb,hd0]
    rw[hF];rw[eZ,eZ]at hco;rw[vf]at hor;simp(disch:=try exact ac)[fD];refine cd ra ?_;simp(disch:=try exact ac)[rdV,fH,jZ];refine cd rb ?_;simp(disch:=try exact ac)[rdV,fH,jZ,hdn,hdp];refine cd hco ?_;simp(disch:=try exact ac);rw[hli];simp(disch:=try exact ac)
    refine cd hor ?_;by_cases hg:Nat.gcd n.natAbs d.natAbs=1
    .have hc:=pZ.2 hg;rw[if_pos hg];simp(disch:=try exact ac)[hc];exact pd (by simp[Mw,aP,av,pF,frL])
    .have hc:¬cmp (Nat.gcd n.natAbs d.natAbs) 1=0:=fun h=>hg (pZ.1 h)
     rw[if_neg hg];simp(disch:=try exact ac)[hc];exact zo _
   .have hF:rdF a b=none:=by simp[rdF,ha,hb,hd0]
    rw[hF];by_cases hdn:d<0
    .simp(disch:=try exact ac)[fD];refine cd ra ?_;simp(disch:=try exact ac)[rdV,fH,jZ];refine cd rb ?_;simp(disch:=try exact ac)[rdV,fH,jZ,hdn];exact zo _
    .have hz:d=0:=aa;subst hz;have hl0:len 0=0:=zD;simp(disch:=try exact ac)[fD];refine cd ra ?_;simp(disch:=try exact ac)[rdV,fH,jZ];refine cd rb ?_;simp(disch:=try exact ac)[rdV,fH,jZ,hl0];exact zo _
theorem MF(a b:LuQ):CP Y F.lO [.agg [S a,S b]] (B (rdF a b).isSome):=by refine BD ?_;simp(disch:=try exact ac)[lO];refine cd (Ka a b) ?_;simp(disch:=try exact ac)[Mw,pF,frL]
theorem Nt(z:Int)(d:Nat):CP Y F.cR [pF z d] (B (decide (z=0))):=by refine uF ?_;simp(disch:=try exact ac)[cR,pF,frL];exact bL (by have:=zE (n:=z.natAbs);rw[decide_eq_decide];omega)
theorem ve:CP Y F.kh [] (pF 0 1):=by
 refine Aj ?_;have hli:∀h,fj 1 [D.int IntKind.u32 0] [(0,.d (.int .u32 1))] h=some ([.int .u32 1],h):=fun h=>by simp[fj,fS,hO,toD]
 have h1:hQ 1=.sl 1 [.int .u32 1]:=rfl;simp(disch:=try exact ac)[kh];rw[hli];simp(disch:=try exact ac);exact pd (by simp[aP,av,pF,frL,xy,h1])
theorem MY{x:Int}(hx:fits x)(hy:fits y)(hc:len c<2^40)(hd:len d<2^40):CP Y F.dp [pF x c,pF y d] (pF (x*y) (c*d)):=by refine tT ?_;have ht:=wt hx hy;have hp:=qo hc hd;rw[eZ,eZ]at hp;simp(disch:=try exact ac)[dp,pF,frL];refine cd ht ?_;simp(disch:=try exact ac);refine cd hp ?_;simp(disch:=try exact ac)[fH,jZ,eZ];exact pd (by simp[aP,av])
def Bg(a b:Int×Nat):Int×Nat:=if a.2=b.2 then(a.1+b.1,a.2)else(a.1*b.2+b.1*a.2,a.2*b.2)
theorem Tp{x:Int}(hx:fits x)(hy:fits y)(hc:fits c)(hd:fits d)(h1:fits (x*d))(h2:fits (y*c)):CP Y F.df [pF x c,pF y d] (pF (Bg (x,c) (y,d)).1 (Bg (x,c) (y,d)).2):=by
 refine vq ?_;have hor:=oI (a:=c) (b:=d) hc hd;rw[eZ,eZ]at hor;unfold Bg;by_cases h:c=d
 .subst h;have ha:=Fz hx hy;have hz:=pZ.2 (rfl:c=c);simp(disch:=try exact ac)[df,pF,frL];refine cd hor ?_;simp(disch:=try exact ac)[hz];refine cd ha ?_;simp(disch:=try exact ac)[fH,jZ];exact pd (by simp[aP,av])
 .have hz:¬cmp c d=0:=fun g=>h (pZ.1 g)
  have t1:=wt (a:=x) (b:=(d:Int)) hx hd;have t2:=wt (a:=y) (b:=(c:Int)) hy hc;have ha:=Fz h1 h2;have hp:=qo hc hd;have e1:fH (d:Int)=.agg [.d (.bool false),.d (hQ d)]:=xE af af;have e2:fH (c:Int)=.agg [.d (.bool false),.d (hQ c)]:=xE af af;rw[e1]at t1;rw[e2]at t2;rw[eZ,eZ]at hp;rw[if_neg h]
  simp(disch:=try exact ac)[df,pF,frL];refine cd hor ?_;simp(disch:=try exact ac)[hz];refine cd t1 ?_;simp(disch:=try exact ac);refine cd t2 ?_;simp(disch:=try exact ac);refine cd ha ?_;simp(disch:=try exact ac);refine cd hp ?_
  simp(disch:=try exact ac)[fH,jZ,eZ];exact pd (by simp[aP,av])
theorem mC(h:a<=b):ndg a<=ndg b:=cg (Zu h (ci b)) (k8 b)
theorem Qg(k:KL):∀(b a:Nat),ndg a<1000000->ndg b<1000000->k (.exit 0) [S (ag (Nat.gcd a b))] []->lp (pY (CX Y)) [] [] [S (ag a),S (ag b)] [] k:=by
 intro b
 induction b using Nat.strongRecOn with
 | _ b ih=>
  intro a ha hb hk;by_cases h0:b=0
  .subst h0;rw[Wz]at hk;refine ai ?_;rw[ik];simp[pY];exact hk
  .have hbp:0<b:=aa
   have hne:¬ag b=[48]:=by
    rw[<-ik];intro e;have:=congrArg (c8 0) e;rw[fo,fo]at this;omega
   have hm:=Zk a hbp
   have hk2:=ih (a%b) hm b hb (Zu (mC (Xs hm)) hb) (by
    rw[X2 b,<-V8,X2 b];exact hk)
   refine ai ?_;simp[pY,hne];refine cd (Hk hbp ha hb) ?_;simp;exact hk2
theorem V6(ha:ndg a<1000000)(hb:ndg b<1000000):CP Y F.pC [S (ag a),S (ag b)] (S (ag (Nat.gcd a b))):=by refine F9 ?_;simp[pC];refine lo (Qg _ b a ha hb ?_);simp;exact fw rfl
theorem Qf(k:KL):∀(b a:Nat),a<1000000000000000000->b<1000000000000000000->k (.exit 0) [I (Nat.gcd a b:Nat)] []->lp (rr (CX Y)) [] [] [I a,I b] [] k:=by
 intro b
 induction b using Nat.strongRecOn with
 | _ b ih=>
  intro a ha hb hk;by_cases h0:(b:Int)=0
  .have:b=0:=aa;subst this;rw[Wz]at hk;refine ai ?_;simp[rr];exact hk
  .have hbp:0<b:=aa;have hm:=Zk a hbp
   have hk2:=ih (a%b) hm b hb aa (by
    rw[X2 b,<-V8,X2 b];exact hk)
   have h0':¬b=0:=aa;have e2:(a:Int)%(b:Int)=((a%b:Nat):Int):=af;obtain⟨r,hr⟩:=mnQ (a%b);rw[hr]at hk2 e2;refine ai ?_;simp[rr,h0,h0',Z4,e2];exact hk2
theorem V5(ha:a<1000000000000000000)(hb:b<1000000000000000000):CP Y F.rK [I a,I b] (I (Nat.gcd a b:Nat)):=by refine Jm ?_;simp[rK];refine lo (Qf _ b a ha hb ?_);simp only[fc];exact cF rfl
theorem AS(h:n<9223372036854775808):CP Y F.gn [I n] (S (ag n)):=by
 refine Dk ?_;simp[gn];have e:itoa (n:Int)=ag n:=by unfold itoa;rw[if_neg aa];rfl
 refine cd (xD (z:=n) aa aa) ?_;rw[e]
 try simp(disch:=try exact ac)
 exact fw rfl
theorem Ek(a:Nat):CP Y F.bF [S (ag a),I 18] (if ndg a<=18 then .tup [I a,B true]else .tup [I 0,B false]):=by
 refine rT ?_;have la:=mM a;by_cases h:18<ndg a
 .rw[if_neg aa];simp(disch:=try exact ac)[bF,la,h];exact eX rfl rfl
 .rw[if_pos aa];have ap:=De (n:=a) (k8 a) aa (ci a);have en:biF .eql (.d (.pl .nilIface)) (.d (.pl .nilIface))=some (.d (.bool true)):=rfl;simp(disch:=try exact ac)[bF,la,h];refine cd (args:=[S (ag a)]) ap ?_;simp[en];exact eX rfl rfl
theorem rW(s:LuQ):CP Y F.ba [S s] (.tup [B (rdN s),S (rdT s)]):=by
 refine FI ?_;cases s with
 | nil=>
  simp[ba];exact eX rfl rfl
 | cons c t=>
  have hix:ixS (S (c::t)) (.d (.int .i64 0))=some (.d (.int .u8 c.toNat)):=rfl;by_cases h:c=45
  .subst h;have e:((45:UInt8).toNat:Int)=45:=rfl;simp(disch:=try exact ac)[ba,hix,e];exact eX rfl rfl
  .have e:¬(c.toNat:Int)=45:=fun g=>h (by apply UInt8.toNat.inj;simpa using(by omega:c.toNat=45))
   have e1:rdT (c::t)=c::t:=by simp[rdT,h]
   have e2:rdN (c::t)=false:=by simp[rdN,h]
   rw[e1,e2];simp[ba,hix,e];exact eX rfl rfl
theorem Hw(l:LuQ)(hl:l.length<1000000000)(k:KL):∀(q p:LuQ),p++q=l->(q.all oL=true->k (.exit 0) [] [])->(q.all oL=false->k .ret [B false] [])->lp (fW (CX Y) (lst u8 l) (I l.length)) [] [] [I p.length] [] k
 | []=>by
  intro p hp h0 h1;simp at hp;subst hp;refine ai ?_;simp[fW];exact h0 rfl
 | c::q=>by
  intro p hp h0 h1;have hpl:p.length<l.length:=by subst hp;simp
  have hc:nth 0 l p.length=c:=by subst hp;simp
  have e1:=fun h:Hp=>qt u8 l h (k:=.i64) (i:=(p.length:Int)) aa aa
  have e2:=fun h:Hp=>lC u8 0 l h (j:=p.length) hpl
  rw[hc]at e2;simp only[Int.toNat_natCast]at e1;have ih:=Hw l hl k q (p++[c]) (by simpa using hp);refine ai ?_;by_cases g1:(c.toNat:Int)<48
  .have g3:oL c=false:=by rw[Bool.eq_false_iff];intro h;rw[jM]at h;omega
   simp(disch:=try exact ac)[fW,e1,e2,u8,g1];exact h1 (by simp[g3])
  .by_cases g2:(57:Int)<c.toNat
   .have g3:oL c=false:=by rw[Bool.eq_false_iff];intro h;rw[jM]at h;omega
    simp(disch:=try exact ac)[fW,e1,e2,u8,g1,g2];exact h1 (by simp[g3])
   .have g3:oL c=true:=by rw[jM];omega
    have:=ih (fun h=>h0 (by simp[g3];simpa using h)) (fun h=>h1 (by simp only[List.all_cons,h,Xo]));simp(disch:=try exact ac)[fW,e1,e2,u8,g1,g2];simpa using this
theorem XP(l:LuQ)(hl:l.length<1000000000):CP Y F.iU [S l] (B (qX l)):=by
 refine x8 ?_;unfold iU
 show cvB (S l) _ _
 rw[ZK];have lL:ij (S l)=some (I l.length):=rfl;simp;refine lo (Hw l hl _ l [] rfl (fun e=>?_) (fun e=>?_))
 .simp only[fc];cases l with
  | nil=>
   simp[lL];exact bL (by simp[qX])
  | cons c t=>
   have hix:ixS (S (c::t)) (.d (.int .i64 0))=some (.d (.int .u8 c.toNat)):=rfl;cases t with
   | nil=>
    simp[lL];exact bL (by simp[qX]at e ⊢;exact e)
   | cons d t=>
    obtain⟨N,hN⟩:∃N,(c::d::t).length=N:=⟨_,rfl⟩;have hN2:2<=N:=by rw[<-hN];simp only[List.length_cons];omega
    rw[hN]at lL;have g2:(1:Int)<(N:Int):=aa;have g3:¬(N:Int)=1:=aa;by_cases h:c=48
    .subst h;have e48:((48:UInt8).toNat:Int)=48:=rfl;simp[lL,g2,g3,hix,e48];exact bL (by simp[qX])
    .have e48:¬(c.toNat:Int)=48:=fun g=>h (by apply UInt8.toNat.inj;simpa using(by omega:c.toNat=48))
     simp[lL,g2,g3,hix,e48]
     exact bL (by
      have:qX (c::d::t)=true:=by simp only[qX,e];simp[h]
      exact this.symm)
 .simp only[sJ,vj];exact bL (by simp only[qX,e,Xo,Xn])
theorem QA(l:LuQ)(hl:l.length<1000000000):CP Y F.kV [S l] (I (if qX l=true∧l.length<=400 then 0 else 2)):=by
 refine Cv ?_;have lL:ij (S l)=some (I l.length):=rfl;obtain⟨N,hN⟩:=mnQ (l.length);rw[hN]at lL ⊢;simp[kV];refine cd (XP l hl) ?_;cases hc:qX l with
 | false=>
  simp<;>exact cF af
 | true=>
  by_cases h:(400:Int)<N
  .simp[lL,h]<;>exact cF (by rw[if_neg aa])
  .have h2:true=true∧N<=400:=⟨rfl,aa⟩;simp[lL,h]<;>exact cF (by rw[if_pos h2.2])
theorem PP(s:LuQ):(rd s).isSome=(!(rdN s&&decide (rdT s=[48]))&&(qX (rdT s)&&decide ((rdT s).length<=400))):=by
 unfold rd rdS rdN rdT;by_cases h45:s.headD 0=45
 .simp only[h45,if_true];obtain⟨t,ht⟩:=mnQ (s.tail);rw[ht];by_cases hl:t.length<=400
  .by_cases h48:t=[48]
   .simp[h48]
   .cases hc:qX t<;>simp[hl,h48]
  .simp[hl]
 .simp only[h45,if_false];by_cases hl:s.length<=400
  .cases hc:qX s<;>simp[hl]
  .simp[hl]
theorem BG(s:LuQ)(hs:s.length<1000000000):CP Y F.lW [S s] (I (if(rd s).isSome then 0 else 2)):=by
 refine FK ?_
 have hT:(rdT s).length<1000000000:=by
  unfold rdT;split
  .have:s.tail.length=s.length-1:=List.length_tail;omega
  .exact hs
 rw[PP];simp[lW];refine cd (rW s) ?_;have hck:=QA (rdT s) hT;obtain⟨t,ht⟩:=mnQ (rdT s);rw[ht]at hck ⊢;obtain⟨c4,hc4⟩:∃c4,(qX t&&decide (t.length<=400))=c4:=⟨_,rfl⟩
 have hck2:CP Y F.kV [S t] (I (if c4=true then 0 else 2)):=by
  have:(if qX t=true∧t.length<=400 then(0:Int)else 2)=if c4=true then 0 else 2:=by
   rw[<-hc4];by_cases h:qX t=true∧t.length<=400
   .rw[if_pos h];simp[h]
   .rw[if_neg h];rw[if_neg (by simpa using h)]
  rw[<-this];exact hck
 rw[hc4];cases hn:rdN s with
 | true=>
  by_cases h3:t=[48]
  .simp[h3]<;>exact cF af
  .simp[h3];refine cd hck2 ?_;cases c4 with
   |true=>simp[h3]<;>exact cF (by simp[h3])
   |false=>simp[h3]<;>exact cF (by simp[h3])
 | false=>
  simp;refine cd hck2 ?_;cases c4 with
  |true=>simp<;>exact cF af
  |false=>simp<;>exact cF af
theorem pN(z:Int):rdT (itoa z)=ag z.natAbs:=by
 unfold itoa rdT;split
 .simp
 .rw[if_neg (qO _)]
theorem O7(z:Int):CP Y F.mJ [S (itoa z)] (S (ag z.natAbs)):=by refine BN ?_;have:=rW (itoa z);rw[pN]at this;simp[mJ];refine cd this ?_;simp<;>exact fw rfl
def sgn(z:Int):Int:=if z=0 then 0 else if z<0 then -1 else 1
theorem t8(z:Int):CP Y F.ia [S (itoa z)] (I (sgn z)):=by
 refine HI ?_;by_cases h0:z=0
 .subst h0;have e:itoa 0=[48]:=ik;rw[e];simp[ia]<;>exact cF rfl
 ·have hne:¬itoa z=[48]:=by
   intro e;have h1:=D4 z;have h2:=D4 0;rw[show itoa 0=[48]from ik,<-e,h1]at h2;exact h0 (Option.some.inj h2)
  by_cases hn:z<0
  .have e:itoa z=45::ag z.natAbs:=by unfold itoa;rw[if_pos hn]
   have hix:ixS (S (itoa z)) (.d (.int .i64 0))=some (.d (.int .u8 45)):=by rw[e];rfl
   simp[ia,hne,hix]<;>exact cF (by simp[sgn,h0,hn])
  .have e:itoa z=ag z.natAbs:=by unfold itoa;rw[if_neg hn]
   obtain ⟨c,t,hct⟩:∃c t,ag z.natAbs=c::t:=by
    cases h:ag z.natAbs with
    |nil=>exact absurd h (w6 _)
    |cons c t=>exact⟨c,t,rfl⟩
   have hhd:=qO z.natAbs;rw[hct]at hhd;have hix:ixS (S (itoa z)) (.d (.int .i64 0))=some (.d (.int .u8 c.toNat)):=by rw[e,hct];rfl
   have hc:¬(c.toNat:Int)=45:=fun g=>hhd (by apply UInt8.toNat.inj;simpa using(by omega:c.toNat=45))
   simp[ia,hne,hix,hc]<;>exact cF (by simp[sgn,h0,hn])
theorem OF{w:Int}(hz:ndg z.natAbs<1000000)(hw:ndg w.natAbs<1000000):CP Y F.py [S (itoa z),S (itoa w)] (S (ag (Nat.gcd z.natAbs w.natAbs))):=by
 refine Jp ?_;have l1:=Ek z.natAbs;have l2:=Ek w.natAbs;have gg:=V6 hz hw;simp[py];refine cd (O7 z) ?_;simp;refine cd (O7 w) ?_;simp;by_cases h1:ndg z.natAbs<=18
 .rw[if_pos h1]at l1;refine cd l1 ?_;simp;by_cases h2:ndg w.natAbs<=18
  .rw[if_pos h2]at l2;refine aE ?_;simp;refine cd l2 ?_;have b1:z.natAbs<1000000000000000000:=by have:=ci z.natAbs;have:=Z6 (n:=10) ae h1;omega
   have b2:w.natAbs<1000000000000000000:=by have:=ci w.natAbs;have:=Z6 (n:=10) ae h2;omega
   have gi:=V5 b1 b2
   have gb:Nat.gcd z.natAbs w.natAbs<9223372036854775808:=by
    rcases Zl w.natAbs with h|h
    .rw[h,Wz];omega
    .have:=Nat.gcd_le_right z.natAbs h;omega
   generalize Nat.gcd z.natAbs w.natAbs=G at *;generalize z.natAbs=a at *;generalize w.natAbs=b at *;simp;refine cd gi ?_;simp;refine cd (AS gb) ?_;exact fw rfl
  .rw[if_neg h2]at l2;refine aE ?_;simp;refine cd l2 ?_;simp;refine cd gg ?_;exact fw rfl
 .rw[if_neg h1]at l1;refine cd l1 ?_;simp;refine cd (u:=.mk) gg ?_;exact fw rfl
theorem zj(h:rd s=some z):s=itoa z∧ndg z.natAbs<1000000:=by
 have hb:=uf h;unfold rd at h;split at h
 .exact⟨J2 h,by have:=cg hb ae;omega⟩
 .cases h
theorem Mv(a b:LuQ):(rdF a b).isSome=match rd a,rd b with
  |some n,some d=>decide (0<d∧Nat.gcd n.natAbs d.natAbs=1)
  |_,_=>false:=by
 unfold rdF;cases rd a<;>cases rd b<;>simp
 split<;>simp_all
theorem Qz(a b:LuQ)(ha:a.length<1000000000)(hb:b.length<1000000000):CP Y F.lF [.agg [S a,S b]] (I (if(rdF a b).isSome then 0 else 2)):=by
 refine Be ?_;have ca:=BG a ha;have cb:=BG b hb;rw[Mv];simp[lF];refine cd ca ?_;cases hra:rd a with
 | none=>
  simp;refine aE ?_;simp<;>exact cF rfl
 | some z=>
  cases hrb:rd b with
  | none=>
   rw[hrb]at cb;simp;refine aE ?_;simp;refine cd cb ?_;simp<;>exact cF rfl
  | some w=>
   rw[hrb]at cb;obtain⟨ea,na⟩:=zj hra;obtain⟨eb,nb⟩:=zj hrb;subst ea;subst eb;have sg:=t8 w;have gg:=OF na nb;simp;refine aE ?_;simp;refine cd cb ?_;simp;refine cd sg ?_;by_cases hw:0<w
   .have hs:¬sgn w<=0:=by unfold sgn;rw[if_neg aa,if_neg aa];decide
    simp[hs];refine aE ?_;simp;refine cd gg ?_;by_cases hg:Nat.gcd z.natAbs w.natAbs=1
    .have e1:ag 1=[49]:=by rw[ag,show ndg 1=1 by unfold ndg;simp];rfl
     rw[show ag (Nat.gcd z.natAbs w.natAbs)=[49] by rw[hg,e1]];simp<;>exact cF (by simp[hw];exact hg)
    ·have e1:¬ag (Nat.gcd z.natAbs w.natAbs)=[49]:=by
      intro e;have:=congrArg (c8 0) e;rw[fo]at this;exact hg this
     simp[e1]<;>exact cF (by simp[hw,hg])
   .have hs:sgn w<=0:=by unfold sgn;split;decide;rw[if_pos aa];decide
    simp[hs];refine aE ?_;simp[hs]<;>exact cF (by simp[hw])
theorem oQ(h:n<=2^j):len n<=j+1:=by refine pj (Zu h ?_);have h1:2^j<=W^j:=W8 ae j;have h2:W^j<W^(j+1):=Nat.pow_lt_pow_right ae aa;omega
theorem mZ(h:Hp):fj 1 [D.int IntKind.u32 0] [(0,.d (.int .u32 1))] h=some ([.int .u32 1],h):=by rfl
theorem KF{w N:Nat}(hw0:0<w)(hw:w<100000000)(hN:N<100000000)(k:KL):∀(n i low high ou:Nat),i+n=N->low<=2^(w+1)->high<=2^(w+1)->ou<2^(i+64) ->
  (∀r,wY w n low high ou=some r->k (.exit 0) [nat r] [])->(wY w n low high ou=none->k .ret [.d nPQ,B false] []) ->
  lp (kI (CX Y) (I w) (nat (2^(w+1))) (I N)) [] [] [nat low,nat high,nat ou,I i] [] k
 | 0,i,low,high,ou,hi,hl,hh,ho,h1,h2=>by
  refine ai ?_;simp(disch:=try exact ac)[kI];exact h1 ou rfl
 | n+1,i,low,high,ou,hi,hl,hh,ho,h1,h2=>by
  have h40:(2:Nat)^40=1099511627776:=ae;have ih:=KF hw0 hw hN k n (i+1);have b1:=oQ hl;have b2:=oQ hh;have b3:=oQ (Xs ho);have q1:=YO hl;have q2:=acg hh;have e2:2^(w+1)*2^(w+1)=2^(2*w+2):=by rw[<-Zr];congr 1;omega
  have c1:=oQ (n:=low*low) (j:=2*w+2) (by rw[<-e2];exact Zg hl hl);have c2:=oQ (n:=high*high) (j:=2*w+2) (by rw[<-e2];exact Zg hh hh);have hq:high*high/2^w<=2^(w+2):=YO hh;have c3:=oQ hq;have c4:=oQ q1;have hqm:high*high/2^w*2^w<=high*high:=X0 _ _;have c5:=pM hqm
  have p1:=qo (a:=low) (b:=low) aa aa;have p2:=qo (a:=high) (b:=high) aa aa;have s1:=HV (a:=low*low) (n:=w) aa hw0 aa;have s2:=HV (a:=high*high) (n:=w) aa hw0 aa;have s3:=AI (a:=high*high/2^w) (n:=w) aa aa
  have o1:=oI (a:=high*high/2^w*2^w) (b:=high*high) aa aa;have s4:=AI (a:=ou) (n:=1) aa aa;have l1:=pj (n:=1) (k:=1) ae;have pl:=xw (a:=high*high/2^w) (b:=1) aa aa;have lt:=oQ (Z7 (2^(w+1)));rw[Wo,show((1:Nat):Int)=1 from rfl]at s4;rw[vf]at pl;simp only[wY]at h1 h2
  have hox:ou*2+1<2^(i+1+64):=by rw[show i+1+64=(i+64)+1 by omega,Nat.pow_succ];omega
  have ho2:ou*2<2^(i+1+64):=aa;have d1:=oQ (Xs ho2);have pl3:=xw (a:=ou*2) (b:=1) aa aa;rw[vf]at pl3;have hpw:2^(w+2)=2^(w+1)*2:=Nat.pow_succ ..;generalize hL2:low*low=L2 at *;generalize hLq:L2/2^w=Lq at *;generalize hH2:high*high=H2 at *;generalize hHq:H2/2^w=Hq at *
  obtain⟨H',hH'⟩:∃H',(if Hq*2^w=H2 then Hq else Hq+1)=H':=⟨_,rfl⟩;rw[hH']at q2 h1 h2;have c6:=oQ q2;have s5:=HV (a:=Lq) (n:=1) aa aa aa;have s6:=HV (a:=H'+1) (n:=1) (by have:=oQ (n:=H'+1) (j:=w+3) (by rw[Nat.pow_succ];have:=Zp (w+2);omega);omega) aa aa;rw[Wo,show(-((1:Nat):Int)) = -1 from rfl]at s5 s6
  have o2:=oI (a:=Lq) (b:=2^(w+1)) aa aa;have o3:=oI (a:=H') (b:=2^(w+1)) aa aa;have pl2:=xw (a:=H') (b:=1) aa aa;rw[vf]at pl2;refine ai ?_;simp(disch:=try exact ac)[kI];refine aE ?_;simp(disch:=try exact ac);refine cd p1 ?_
  simp(disch:=try exact ac);refine cd s1 ?_;simp(disch:=try exact ac);refine cd p2 ?_;simp(disch:=try exact ac);refine cd s2 ?_;simp(disch:=try exact ac);refine cd s3 ?_;simp(disch:=try exact ac);refine cd o1 ?_;by_cases he:Hq*2^w=H2
  .have hc:=pZ.2 he;rw[if_pos he]at hH';simp(disch:=try exact ac)[hc];refine aE ?_;simp(disch:=try exact ac);rw[hH'];refine cd s4 ?_;simp(disch:=try exact ac);refine aE ?_;simp(disch:=try exact ac);refine cd o2 ?_;by_cases ht:2^(w+1)<=Lq
   .have hcm:(0:Int)<=cmp Lq (2^(w+1)):=by unfold cmp;rw[if_neg aa];split<;>omega
    rw[if_pos ht]at h1 h2;simp(disch:=try exact ac)[hcm];refine aE ?_;simp(disch:=try exact ac)[hcm,mZ];refine cd pl3 ?_;simp(disch:=try exact ac);refine cd s5 ?_;simp(disch:=try exact ac)[mZ];refine cd pl2 ?_;simp(disch:=try exact ac);refine cd s6 ?_
    simp(disch:=try exact ac);exact ih (Lq/2) ((H'+1)/2) (ou*2+1) aa aa aa hox h1 h2
   .have hcm:¬(0:Int)<=cmp Lq (2^(w+1)):=by unfold cmp;rw[if_pos aa];omega
    rw[if_neg ht]at h1 h2;simp(disch:=try exact ac)[hcm];refine aE ?_;simp(disch:=try exact ac)[hcm];refine cd o3 ?_;by_cases hu:2^(w+1)<=H'
    .have hcm2:(0:Int)<=cmp H' (2^(w+1)):=by unfold cmp;rw[if_neg aa];split<;>omega
     rw[if_pos hu]at h1 h2;simp(disch:=try exact ac)[hcm2];exact h2 rfl
    .have hcm2:¬(0:Int)<=cmp H' (2^(w+1)):=by unfold cmp;rw[if_pos aa];omega
     rw[if_neg hu]at h1 h2;simp(disch:=try exact ac)[hcm2];exact ih Lq H' (ou*2) aa aa aa ho2 h1 h2
  .have hc:¬cmp (Hq*2^w) H2=0:=fun h=>he (pZ.1 h)
   rw[if_neg he]at hH';simp(disch:=try exact ac)[hc];refine aE ?_;simp(disch:=try exact ac)[mZ];refine cd pl ?_;rw[hH'];simp(disch:=try exact ac);refine cd s4 ?_;simp(disch:=try exact ac);refine aE ?_;simp(disch:=try exact ac);refine cd o2 ?_;by_cases ht:2^(w+1)<=Lq
   .have hcm:(0:Int)<=cmp Lq (2^(w+1)):=by unfold cmp;rw[if_neg aa];split<;>omega
    rw[if_pos ht]at h1 h2;simp(disch:=try exact ac)[hcm];refine aE ?_;simp(disch:=try exact ac)[hcm,mZ];refine cd pl3 ?_;simp(disch:=try exact ac);refine cd s5 ?_;simp(disch:=try exact ac)[mZ];refine cd pl2 ?_;simp(disch:=try exact ac);refine cd s6 ?_
    simp(disch:=try exact ac);exact ih (Lq/2) ((H'+1)/2) (ou*2+1) aa aa aa hox h1 h2
   .have hcm:¬(0:Int)<=cmp Lq (2^(w+1)):=by unfold cmp;rw[if_pos aa];omega
    rw[if_neg ht]at h1 h2;simp(disch:=try exact ac)[hcm];refine aE ?_;simp(disch:=try exact ac)[hcm];refine cd o3 ?_;by_cases hu:2^(w+1)<=H'
    .have hcm2:(0:Int)<=cmp H' (2^(w+1)):=by unfold cmp;rw[if_neg aa];split<;>omega
     rw[if_pos hu]at h1 h2;simp(disch:=try exact ac)[hcm2];exact h2 rfl
    .have hcm2:¬(0:Int)<=cmp H' (2^(w+1)):=by unfold cmp;rw[if_pos aa];omega
     rw[if_neg hu]at h1 h2;simp(disch:=try exact ac)[hcm2];exact ih Lq H' (ou*2) aa aa aa ho2 h1 h2
def VN(o:Option Nat):V:=.tup [nat (o.getD 0),B o.isSome]
theorem Iq{p:Nat}(hp:1<=p)(hp2:p<4294967296)(hn:n<100000000)(hw0:32<=w)(hw:w<100000000):CP Y F.gK [I p,I n,I w] (VN (wX p n w)):=by
 refine ya ?_;have h40:(2:Nat)^40=1099511627776:=ae;have lp1:=pj (n:=p) (k:=1) (by simp only[W];omega);have hb:=rS (n:=p) (k:=32) (by simpa using hp2);have hb0:=Dc (n:=p) aa;have hbl:=yQ p;obtain⟨j,hj⟩:∃j,bln p=j+1:=⟨bln p-1,aa⟩;have o1:=Kp (n:=p) aa;have b1:=I5 (a:=p) aa;have o2:=Kp (n:=j) aa
 have s1:=AI (a:=p) (n:=w-j) aa aa;have l1:=pj (n:=1) (k:=1) ae;have s2:=AI (a:=1) (n:=w+1) aa aa;rw[Ye,vf]at s2;rw[hj]at b1 hbl;have e1:((w:Int)-(j:Int))=((w-j:Nat):Int):=aa;have e2:((w:Int)+1)=((w+1:Nat):Int):=aa
 have hlow:p*2^(w-j)<=2^(w+1):=by
  have:=Zx (2^(w-j)) (Xs hbl);rw[<-Zr,show j+1+(w-j)=w+1 by omega]at this;exact this
 have hN:wX p n w=wY w n (p*2^(w-j)) (p*2^(w-j)) j:=by unfold wX;rw[hj];rfl
 have hjb:j<2^(0+64):=by
  have:(32:Nat)<2^(0+64):=ae;omega
 simp(disch:=try exact ac)[gK];refine cd o1 ?_;simp(disch:=try exact ac);refine cd b1 ?_;simp(disch:=try exact ac);refine cd o2 ?_;simp(disch:=try exact ac);rw[e1];refine cd s1 ?_;simp(disch:=try exact ac)[mZ];rw[e2];refine cd s2 ?_;simp(disch:=try exact ac)
 refine lo (KF (w:=w) (N:=n) aa hw hn _ n 0 _ _ _ aa hlow hlow hjb (fun r hr=>?_) (fun hr=>?_))
 .rw[hN,hr];simp(disch:=try exact ac);exact pd (by simp[aP,av,VN])
 .rw[hN,hr];simp(disch:=try exact ac);exact pd (by simp[aP,av,VN,nat,pS,lst])
theorem AZ{w:Nat}:∀(n m low high ou:Nat),(wY w (n+m) low high ou).isSome=true->(wY w n low high ou).isSome=true
 |0,m,low,high,ou,h=>rfl
 | n+1,m,low,high,ou,h=>by
  rw[show n+1+m=(n+m)+1 by omega]at h;simp only[wY]at h ⊢;generalize(if high*high/2^w*2^w=high*high then high*high/2^w else high*high/2^w+1)=H at h ⊢;by_cases g:2^(w+1)<=low*low/2^w
  .rw[if_pos g]at h ⊢;exact AZ n m _ _ _ h
  .rw[if_neg g]at h ⊢;by_cases g2:2^(w+1)<=H
   .grind
   .rw[if_neg g2]at h ⊢;exact AZ n m _ _ _ h
def xu(n:Nat):Nat->Nat->Bool
 |0,_=>true
 |k+1,d=>if n%d=0 then false else xu n k (d+1)
def bw(n:Int):Bool:=decide (2<=n)&&decide (n<=97)&&xu n.toNat (n.toNat-2) 2
theorem VM:∀p:Fin 98,bw p.val=true->(wX p.val 64 160).isSome=true:=b9
theorem D7(n:Nat)(hn:n<=97)(k:KL):∀(r d:Nat),2<=d->d+r=n->(xu n r d=true->k (.exit 0) [] [])->(xu n r d=false->k .ret [B false] []) ->
  lp (jT (CX Y) (I n)) [] [] [I d] [] k
 | 0,d,hd,hr,h0,h1=>by
  refine ai ?_;simp(disch:=try exact ac)[jT];exact h0 rfl
 | r+1,d,hd,hr,h0,h1=>by
  have e:((n:Int).tmod d=0)↔n%d=0:=by
   rw[Z4 aa];omega
  refine ai ?_;simp only[xu]at h0 h1;by_cases h:n%d=0
  .have e':=eq_true (e.2 h);rw[if_pos h]at h1;simp(disch:=try exact ac)[jT,e'];exact h1 rfl
  .have e':¬(n:Int).tmod d=0:=fun g=>h (e.1 g)
   rw[if_neg h]at h0 h1;have:=D7 n hn k r (d+1) aa aa h0 h1;simp(disch:=try exact ac)[jT,e'];simpa using this
theorem sv(n:Int):CP Y F.fL [I n] (B (bw n)):=by
 refine Al ?_;by_cases h1:n<2
 .simp(disch:=try exact ac)[fL,h1];exact bL (by simp[bw];omega)
 .by_cases h2:97<n
  .simp(disch:=try exact ac)[fL,h1,h2];exact bL (by simp[bw];omega)
  .obtain⟨m,rfl⟩:∃m:Nat,n=m:=⟨n.toNat,aa⟩
   have hp:bw (m:Int)=xu m (m-2) 2:=by
    unfold bw;rw[show decide ((2:Int)<=m)=true by simp;omega,show decide ((m:Int)<=97)=true by simp;omega];simp
   rw[hp];simp(disch:=try exact ac)[fL,h1,h2];refine lo (D7 m aa _ (m-2) 2 aa aa (fun g=>?_) (fun g=>?_))
   .rw[g];simp(disch:=try exact ac)
   .rw[g];simp(disch:=try exact ac)
def fq(p b:Int)(l:LuQ):Bool:=match rd l with
 |some z=>decide (0<=z)&&bw p&&decide (0<=b)&&decide (b<=64)&&(wX p.toNat b.toNat 160 == some z.toNat)
 |none=>false
theorem nX{p:Int}(h:bw p=true):2<=p∧p<=97:=by simp only[bw,Z8,decide_eq_true_eq]at h;exact h.1
theorem SI{p:Nat}(hp:bw (p:Int)=true)(hb:b<=64):∃r,wX p b 160=some r:=by have h97:=nX hp;have h:=VM ⟨p,aa⟩ hp;rw[show(64:Nat)=b+(64-b) by omega]at h;have:=AZ (w:=160) b (64-b) _ _ _ h;exact Xt.1 this
theorem Iu{w:Nat}:∀(n:Nat){j low high ou r:Nat},ou<2^j->wY w n low high ou=some r->r<2^(j+n)
 |0,j,low,high,ou,r,ho,h=>by simp only[wY,Z9]at h;subst h;exact ho
 | n+1,j,low,high,ou,r,ho,h=>by
  simp only[wY]at h;generalize(if high*high/2^w*2^w=high*high then high*high/2^w else high*high/2^w+1)=H at h;have h1:ou*2+1<2^(j+1):=by rw[Nat.pow_succ];omega
  have h2:ou*2<2^(j+1):=aa;rw[show j+(n+1)=j+1+n by omega];by_cases g:2^(w+1)<=low*low/2^w
  .rw[if_pos g]at h;exact Iu n h1 h
  .rw[if_neg g]at h;by_cases g2:2^(w+1)<=H
   .rw[if_pos g2]at h;cases h
   .rw[if_neg g2]at h;exact Iu n h2 h
theorem BI(p b:Int)(l:LuQ):CP Y F.cX [.agg [I p,I b,S l]] (B (fq p b l)):=by
 refine BF ?_;have h40:(2:Nat)^40=1099511627776:=ae;have rl:=CK l;unfold fq;cases hl:rd l with
 | none=>
  rw[hl]at rl;simp(disch:=try exact ac)[cX];refine cd rl ?_;simp(disch:=try exact ac)[rdV,fH,jZ]
 | some z=>
  have hzl:=Mu hl;rw[hl]at rl;simp only[];by_cases hz:z<0
  .simp(disch:=try exact ac)[cX];refine cd rl ?_;simp(disch:=try exact ac)[rdV,fH,jZ,hz];exact bL (by simp;intro;omega)
  .by_cases hp:bw p=true
   rotate_left
   .simp(disch:=try exact ac)[cX];refine cd rl ?_;simp(disch:=try exact ac)[rdV,fH,jZ,hz];refine cd (sv p) ?_;simp(disch:=try exact ac)[hp]
   .have h97:=nX hp;by_cases hb0:b<0
    .simp(disch:=try exact ac)[cX];refine cd rl ?_;simp(disch:=try exact ac)[rdV,fH,jZ,hz];refine cd (sv p) ?_;simp(disch:=try exact ac)[hp,hb0];exact bL ak
    .by_cases hb1:64<b
     .simp(disch:=try exact ac)[cX];refine cd rl ?_;simp(disch:=try exact ac)[rdV,fH,jZ,hz];refine cd (sv p) ?_;simp(disch:=try exact ac)[hp,hb0,hb1];exact bL ak
     .obtain⟨pn,rfl⟩:∃n:Nat,p=n:=⟨p.toNat,aa⟩;obtain⟨bn,rfl⟩:∃n:Nat,b=n:=⟨b.toNat,aa⟩;obtain⟨zn,rfl⟩:∃n:Nat,z=n:=⟨z.toNat,aa⟩;obtain⟨r,hr⟩:=SI hp (b:=bn) aa;have lg:=Iq (p:=pn) (n:=bn) (w:=160) aa aa aa aa aa;rw[hr]at lg;rw[show((160:Nat):Int)=160 from rfl]at lg
      have e:(decide (0<=(zn:Int))&&bw (pn:Int)&&decide (0<=(bn:Int))&&decide ((bn:Int)<=64)&&(wX (pn:Int).toNat (bn:Int).toNat 160 == some (zn:Int).toNat))=decide (r=zn):=by
       rw[show decide (0<=(zn:Int))=true by simp,show decide (0<=(bn:Int))=true by simp,show decide ((bn:Int)<=64)=true by simp;omega,hp,Int.toNat_natCast,Int.toNat_natCast,Int.toNat_natCast,hr,Ym];simp
      rw[e];simp(disch:=try exact ac)[cX];refine cd rl ?_;simp(disch:=try exact ac)[rdV,fH,jZ,hz];refine cd (sv pn) ?_;simp(disch:=try exact ac)[hp,hb0,hb1];refine lo (ai ?_);simp(disch:=try exact ac)[tv];refine cd lg ?_
      have hrl:=oQ (Xs (Iu bn (j:=64) (by
       have:=rS (n:=pn) (k:=32) (Z3 (by omega:pn<128) ae);have h2:(32:Nat)<2^64:=ae;omega) hr))
      rw[Int.natAbs_natCast]at hzl;have hor:CP Y F.cE [nat r,nat zn] (I (cmp r zn)):=oI aa aa;rw[eZ zn]at hor;simp(disch:=try exact ac)[VN];refine cd hor ?_;simp(disch:=try exact ac);exact bL (by rw[decide_eq_decide,pZ])
def uj:Option Int->LiQ->Bool
 |_,[]=>true
 |prev,x::q=>bw x&&(match prev with|some y=>decide (y<x)|none=>true)&&uj (some x) q
def mX(p:LiQ):Bool:=uj none p&&decide (0<p.length)&&decide (p.length<=6)
theorem BX(k:KL):∀(q a:LiQ),(a++q).length<1000000000->(uj a.getLast? q=true->k (.exit 0) [] [])->(uj a.getLast? q=false->k .ret [B false] []) ->
  lp (nj (CX Y) (lst di (a++q)) (lst di (a++q)) (I (a++q).length)) [] [] [I a.length] [] k
 | []=>by
  intro a hN h0 h1;refine ai ?_;simp(disch:=try exact ac)[nj];exact h0 rfl
 | x::q=>by
  intro a hN h0 h1;simp at hN;have ih:=BX k q (a++[x]) ak;rw[List.getLast?_concat]at ih;refine ai ?_;simp(disch:=try exact ac)[nj];refine cd (sv x) ?_;by_cases hp:bw x=true
  .rcases List.eq_nil_or_concat a with rfl|⟨b,y,rfl⟩
   .simp only[uj,hp,List.getLast?_nil,Y9]at h0 h1;simp(disch:=try exact ac)[hp];have:=ih h0 h1;simpa using this
   .rw[List.concat_eq_append]at *;have hny:nth 0 (b++[y]++x::q) b.length=y:=by rw[List.append_assoc];simp
    rw[List.getLast?_concat]at h0 h1;simp only[uj,hp,Y9]at h0 h1;have eI:∀h:Hp,ixV h 1 (lst di (b++[y]++x::q)) (.d (.int .i64 (b.length:Int)))=some (.dptr ((b++[y]++x::q).map di) b.length):=fun h=>jL di _ h rfl af
    have eL:∀h:Hp,ld1 h (.dptr ((b++[y]++x::q).map di) b.length)=some (.d (di y)):=fun h=>by
     have:=MR (b++[y]++x::q) h (j:=b.length) af;rw[hny]at this;exact this
    have hA:b++[y]++[x]++q=b++[y]++x::q:=af;have hn:(b++[y]).length=b.length+1:=af;have hn2:(b++[y]++[x]).length=b.length+1+1:=af;rw[hA,hn2]at ih;rw[hn]at hN ⊢;generalize b++[y]++x::q=A at *;generalize b.length=m at *;have e':((m+1:Nat):Int)-1=(m:Int):=aa;have hl0:(0:Int)<((m+1:Nat):Int):=aa;obtain⟨m1,hm1⟩:=nmQ (m+1);rw[<-hm1]at e' hl0 ih ⊢
    by_cases hyx:y<x
    .have g1:¬x<=y:=aa;rw[show decide (y<x)=true by simpa using hyx,Y9]at h0 h1;have:=ih h0 h1;simp(disch:=try exact ac)[hp,e',hl0,eI,eL,g1];simpa using this
    .have g1:x<=y:=aa;rw[show decide (y<x)=false by simpa using hyx,Xn]at h1;simp(disch:=try exact ac)[hp,e',hl0,eI,eL,g1];simpa using h1
  .have hpf:bw x=false:=by simpa using hp
   simp only[uj,hpf,Xn]at h1;simp(disch:=try exact ac)[hpf];simpa using h1
theorem GM(hN:p.length<1000000000):CP Y F.jV [lst di p] (B (mX p)):=by
 refine BC ?_;simp(disch:=try exact ac)[jV];refine lo (BX _ p [] (by simpa using hN) (fun g=>?_) (fun g=>?_))
 .simp only[List.getLast?_nil]at g;by_cases h1:0<p.length
  .simp(disch:=try exact ac)[h1];exact bL (by simp[mX,g,h1];omega)
  .simp(disch:=try exact ac)[h1];exact bL (by simp[mX,g,h1])
 .simp only[List.getLast?_nil]at g;simp(disch:=try exact ac);exact bL (by simp[mX,g])
def md(s:LuQ):Bool:=decide ((rdT s).length<=30)
theorem JS(hs:s.length<1000000000000):CP Y F.iw [S s] (B (md s)):=by
 refine Cy ?_;cases s with
 | nil=>
  simp(disch:=try exact ac)[iw];refine dy (l:=[I 0]) (h:=[]) (fun q=>?_) ?_
  .simp(disch:=try exact ac)
  simp(disch:=try exact ac);exact bL rfl
 | cons b t=>
  have hix:ixS (S (b::t)) (.d (.int .i64 0))=some (.d (.int .u8 b.toNat)):=rfl;by_cases h:b=45
  .subst h;have e:((45:UInt8).toNat:Int)=45:=rfl;simp at hs;simp(disch:=try exact ac)[iw,hix,e];refine dy (l:=[I t.length]) (h:=[]) (fun q=>?_) ?_
   .simp(disch:=try exact ac)
   simp(disch:=try exact ac);exact bL (by simp[md,rdT];omega)
  .have e:¬(b.toNat:Int)=45:=fun g=>h (by apply UInt8.toNat.inj;simpa using(by omega:b.toNat=45))
   simp(disch:=try exact ac)[iw,hix,e];refine dy (l:=[I (t.length+1:Nat)]) (h:=[]) (fun q=>?_) ?_
   .simp(disch:=try exact ac)
   simp(disch:=try exact ac);exact bL (by simp[md,rdT,h];omega)
abbrev Tx:=LuQ×LuQ
def fi(x:Tx):LdQ:=[.str x.1,.str x.2]
theorem fT(x:Tx):(fi x).length=2:=rfl
def wT(x:Tx):Bool:=md x.1&&md x.2&&(rdF x.1 x.2).isSome
def r8(p:LiQ)(s:List Tx):Bool:=mX p&&decide (s.length=p.length)&&s.all wT
theorem GA{s:List Tx}(hN:s.length<1000000000)(hl:∀x∈s,x.1.length<1000000000000∧x.2.length<1000000000000)(k:KL):∀(q a:List Tx),a++q=s->(q.all wT=true->k (.exit 0) [] [nnQ])->(q.all wT=false->∀h,k .ret [B false] h) ->
  lp (oY (CX Y) (gR fi s) (I s.length)) [0] [nnQ] [I a.length] [nnQ] k
 | []=>by
  intro a ha h0 h1;simp at ha;subst ha;refine ai ?_;simp(disch:=try exact ac)[oY];exact h0 rfl
 | x::q=>by
  intro a ha h0 h1;have hal:a.length<s.length:=by subst ha;simp
  have hx:nth ([],[]) s a.length=x:=by subst ha;simp
  have hxl:=hl x (by subst ha;simp);have e1:=fun h:Hp=>m6 fi fT s h (k:=.i64) (i:=(a.length:Int)) aa aa
  have e2:=fun h:Hp=>m5 fi fT ([],[]) s h hal
  simp only[hx,Int.toNat_natCast]at e1 e2;have ih:=GA hN hl k q (a++[x]) (by simpa using ha);refine ai ?_;simp(disch:=try exact ac)[oY,e1,e2,fi];refine cd (JS hxl.1) ?_;by_cases g1:md x.1=true
  rotate_left
  .have:=h1 (by simp[wT,g1]);simp(disch:=try exact ac)[g1];exact this _
  simp(disch:=try exact ac)[g1];refine cd (JS hxl.2) ?_;by_cases g2:md x.2=true
  rotate_left
  .have:=h1 (by simp[wT,g1,g2]);simp(disch:=try exact ac)[g2];exact this _
  simp(disch:=try exact ac)[g2];refine cd (MF x.1 x.2) ?_;by_cases g3:(rdF x.1 x.2).isSome=true
  rotate_left
  .have:=h1 (by simp only[List.all_cons,wT,g1,g2,g3];simp[g3]);simp(disch:=try exact ac)[g3];exact this _
  have hx3:wT x=true:=by simp only[wT,g1,g2,g3];rfl
  simp only[List.all_cons,hx3,Y9]at h0 h1;have:=ih h0 h1;simp(disch:=try exact ac)[g3,clean,iN,pL,oJ,mY,bm];simpa using this
theorem U2{s:List Tx}(hp:p.length<1000000000)(hl:∀x∈s,x.1.length<1000000000000∧x.2.length<1000000000000):CP Y F.ow [lst di p,gR fi s] (B (r8 p s)):=by
 refine Fi ?_;simp(disch:=try exact ac)[ow];refine cd (GM hp) ?_;by_cases h1:mX p=true
 .by_cases h2:s.length=p.length
  .have h2':((s.length:Int)=(p.length:Int))=True:=eq_true aa;simp(disch:=try exact ac)[h1,h2'];refine lo (GA aa hl _ s [] rfl (fun g=>?_) (fun g h=>?_))
   .simp(disch:=try exact ac);exact bL (by simp only[r8,h1,h2,g];simp)
   .simp(disch:=try exact ac);exact bL (by simp only[r8,g];simp)
  .simp(disch:=try exact ac)[h1,h2];exact bL (by simp[r8,h2])
 .simp(disch:=try exact ac)[h1];exact bL (by simp[r8,h1])
def frC(x:Int×Nat):LdQ:=[.bool (decide (x.1<0)),hQ x.1.natAbs,hQ x.2]
theorem xG(x:Int×Nat):(frC x).length=3:=rfl
theorem OJ(x:Int×Nat):V.agg ((frC x).map .d)=pF x.1 x.2:=rfl
def oK:List Tx->Option (List (Int×Nat))
 |[]=>some []
 | x::q=>match rdF x.1 x.2,oK q with
  |some f,some l=>some (f::l)
  |_,_=>none
theorem A3:∀{s:List Tx}{l:List (Int×Nat)},oK s=some l->l.length=s.length
 |[],l,h=>by grind[oK]
 | x::q,l,h=>by
  simp only[oK]at h;cases h1:rdF x.1 x.2 with
  |none=>grind
  | some f=>
   cases h2:oK q with
   |none=>grind
   | some m=>
    rw[h1,h2]at h;simp only[Z9]at h;subst h;simp[A3 h2]
def lsA:Acc:=⟨2,0,3,.none⟩
def lsH(L:Nat)(cells:LdQ):Hp:=[nnQ,nnQ,lsA.b L cells]
theorem GZ{s:List Tx}(hN:s.length<1000000000)(k:KL):∀(q a:List Tx)(d:List (Int×Nat)),a++q=s->d.length=a.length ->
  (∀l,oK q=some l->k (.exit 0) [lsA.v s.length ((d++l).flatMap frC)] (lsH s.length ((d++l).flatMap frC)))->(oK q=none->∀h,k .ret [.d nPQ,B false] h) ->
  lp (oU (CX Y) (gR fi s) (I s.length)) [0,1] [nnQ,nnQ,nnQ] [lsA.v a.length (d.flatMap frC),I a.length] (lsH a.length (d.flatMap frC)) k
 | []=>by
  intro a d ha hd h0 h1;simp at ha;subst ha;refine ai ?_;simp(disch:=try exact ac)[oU];simpa using h0 [] rfl
 | x::q=>by
  intro a d ha hd h0 h1;have hal:a.length<s.length:=by subst ha;simp
  have hx:nth ([],[]) s a.length=x:=by subst ha;simp
  have e1:=fun h:Hp=>m6 fi fT s h (k:=.i64) (i:=(a.length:Int)) aa aa
  have e2:=fun h:Hp=>m5 fi fT ([],[]) s h hal
  simp only[hx,Int.toNat_natCast]at e1 e2;refine ai ?_;simp(disch:=try exact ac)[oU,e1,e2,fi,lsH];refine cd (Ka x.1 x.2) ?_;cases hf:rdF x.1 x.2 with
  | none=>
   have:=h1 (by simp[oK,hf]);simp(disch:=try exact ac)[Mw,pF,frL];exact this _
  | some f=>
   have ih:=GZ hN k q (a++[x]) (d++[f]) (by simpa using ha) (by simp[hd]) (fun l hl=>by simpa using h0 (f::l) (by simp[oK,hf,hl])) (fun hl=>h1 (by simp[oK,hf,hl]))
   have hli:∀H:Hp,fj 1 [D.bool false,nPQ,nPQ] [(0,V.agg [V.d (D.bool (decide (f.fst<0))),V.d (hQ f.fst.natAbs),V.d (hQ f.snd)])] H=some (frC f,H):=fun H=>by
    simp[fj,fS,hO,toD,frC]
   simp(disch:=try exact ac)[Mw,pF,frL];rw[hli];simp(disch:=try exact ac);have hfl:=sE frC xG d;refine rI lsA (k:=1) (cs:=frC f) aa (by rfl) (by rw[hfl,hd];rfl) rfl rfl af aa (by simp[lsA]) ?_;simp(disch:=try exact ac)[clean,iN,pL,oJ,mY,bm,offB,lsA]
   simpa[lsA,lsH,Acc.v,Acc.b,pL,mY,show Nat.beq 0 2=false from rfl,show Nat.beq 1 2=false from rfl]using ih
theorem VR{s:List Tx}(hN:s.length<1000000000):CP Y F.oo [gR fi s] (match oK s with|some l=>.tup [gR frC l,B true]|none=>.tup [.d (.sl 0 []),B false]):=by
 refine Fb ?_;simp(disch:=try exact ac)[oo];refine lo (GZ hN _ s [] [] rfl rfl (fun l hl=>?_) (fun hl h=>?_))
 .have hll:=A3 hl;rw[hl];simp(disch:=try exact ac);have hfl:=sE frC xG l;obtain⟨h',h1,_⟩:=uJ lsA (L:=s.length) (cells:=l.flatMap frC) (h:=lsH s.length (l.flatMap frC)) rfl (by rw[hfl,hll];rfl);exact⟨h',by simp[aP,av,h1,gR,hll]⟩
 .rw[hl];simp(disch:=try exact ac);exact pd (by simp[aP,av])
def Q3(n:Nat):Nat->Nat->Bool
 |0,_=>true
 |r+1,d=>if d*d<=n then(if n%d=0 then false else Q3 n r (d+1))else true
theorem aal:∀n:Fin 98,2<=n.val->Q3 n.val 10 2=bw n.val:=b9
theorem NK(n:Nat)(hn:n<=97)(k:KL):∀(r d:Nat),2<=d->d+r=12->(Q3 n r d=true->k (.exit 0) [] [])->(Q3 n r d=false->k .ret [B false] []) ->
  lp (jG (CX Y) (I n)) [] [] [I d] [] k
 | 0,d,hd,hr,h0,h1=>by
  have:d=12:=aa;subst this;have g:¬((12:Nat):Int)*((12:Nat):Int)<=(n:Int):=aa;have g2:¬(144:Int)<=(n:Int):=aa;refine ai ?_;simp[jG,g,g2];exact h0 rfl
 | r+1,d,hd,hr,h0,h1=>by
  have ih:=NK n hn k r (d+1) aa aa;have hd12:d<=12:=aa;obtain⟨s,hs⟩:=mnQ (d*d);have hsb:s<=144:=by rw[<-hs];exact Zg hd12 hd12
  have e1:(d:Int)*(d:Int)=(s:Int):=by rw[<-hs];simp
  rw[Q3,hs]at h0 h1;refine ai ?_;by_cases g:s<=n
  .have g':(s:Int)<=(n:Int):=aa;rw[if_pos g]at h0 h1;have hd0:¬((d:Int)=0):=aa;have hd0':¬(d=0):=aa;obtain⟨m,hm⟩:=mnQ (n%d);have e2:(n:Int)%(d:Int)=(m:Int):=by rw[<-hm];simp
   rw[hm]at h0 h1;by_cases h:m=0
   .have h':(m:Int)=0:=aa;rw[if_pos h]at h1;simp(disch:=try exact ac)[jG,e1,g',hd0,hd0',Z4,e2,h',h];exact h1 rfl
   .have h':¬(m:Int)=0:=aa;rw[if_neg h]at h0 h1;have:=ih h0 h1;simp(disch:=try exact ac)[jG,e1,g',hd0,hd0',Z4,e2,h',h];simpa using this
  .have g':¬(s:Int)<=(n:Int):=aa;rw[if_neg g]at h0;simp(disch:=try exact ac)[jG,e1,g'];exact h0 rfl
theorem B4(n:Int):CP Y F.ir [I n] (B (bw n)):=by
 refine Ck ?_;by_cases h1:n<2
 .simp[ir,h1]<;>exact bL (by simp[bw];omega)
 by_cases h2:97<n
 .simp[ir,h1,h2]<;>exact bL (by simp[bw];omega)
 obtain⟨m,rfl⟩:∃m:Nat,n=m:=⟨n.toNat,aa⟩;have ha:=aal ⟨m,aa⟩ ak;simp only at ha;simp[ir,h1,h2];refine lo (NK m aa _ 10 2 aa rfl (fun e=>?_) (fun e=>?_))
 .simp only[fc];exact bL (by rw[<-ha,e])
 .simp only[sJ,vj];exact bL (by rw[<-ha,e])
def D8(prev:Option Int)(x:Int):Bool:=match prev with|some y=>decide (y<x)|none=>true
def xW:Option Int->LiQ->Int
 |_,[]=>0
 |prev,x::q=>cond (bw x) (cond (D8 prev x) (xW (some x) q) 6) 25
theorem GN:∀(q:LiQ)(prev:Option Int),decide (xW prev q=0)=uj prev q
 |[],_=>by simp[xW,uj]
 | x::q,prev=>by
  have e:uj prev (x::q)=(bw x&&D8 prev x&&uj (some x) q):=by cases prev<;>rfl
  rw[e];cases h1:bw x with
  |false=>simp only[xW,h1,cond_false,Xn];rfl
  | true=>
   cases h2:D8 prev x with
   |false=>simp only[xW,h1,h2,cond_true,cond_false,Y9,Xn];rfl
   | true=>
    simp only[xW,h1,h2,cond_true,Y9];exact GN q (some x)
theorem Ob(k:KL):∀(q a:LiQ),(a++q).length<1000000000->(xW a.getLast? q=0->k (.exit 1) [] [])->(xW a.getLast? q≠0->k .ret [I (xW a.getLast? q)] []) ->
  lp (pJ (CX Y) (lst di (a++q)) (lst di (a++q)) (I (a++q).length)) [] [] [I a.length] [] k
 | []=>by
  intro a hN h0 h1;refine ai ?_;simp[pJ];exact h0 rfl
 | x::q=>by
  intro a hN h0 h1;simp at hN;have ih:=Ob k q (a++[x]) ak;rw[List.getLast?_concat]at ih;refine ai ?_;simp(disch:=try exact ac)[pJ];refine cd (B4 x) ?_;by_cases hp:bw x=true
  .rcases List.eq_nil_or_concat a with rfl|⟨b,y,rfl⟩
   .simp only[xW,hp,List.getLast?_nil,D8,cond_true]at h0 h1;simp[hp];have:=ih h0 h1;simpa using this
   .rw[List.concat_eq_append]at *;have hny:nth 0 (b++[y]++x::q) b.length=y:=by rw[List.append_assoc];simp
    rw[List.getLast?_concat]at h0 h1;simp only[xW,hp,D8,cond_true]at h0 h1;have eI:∀h:Hp,ixV h 1 (lst di (b++[y]++x::q)) (.d (.int .i64 (b.length:Int)))=some (.dptr ((b++[y]++x::q).map di) b.length):=fun h=>jL di _ h rfl af
    have eL:∀h:Hp,ld1 h (.dptr ((b++[y]++x::q).map di) b.length)=some (.d (di y)):=fun h=>by
     have:=MR (b++[y]++x::q) h (j:=b.length) af;rw[hny]at this;exact this
    have hA:b++[y]++[x]++q=b++[y]++x::q:=af;have hn:(b++[y]).length=b.length+1:=af;have hn2:(b++[y]++[x]).length=b.length+1+1:=af;rw[hA,hn2]at ih;rw[hn]at hN ⊢;generalize b++[y]++x::q=A at *;generalize b.length=m at *;have e':((m+1:Nat):Int)-1=(m:Int):=aa;have hl0:(0:Int)<((m+1:Nat):Int):=aa;obtain⟨m1,hm1⟩:=nmQ (m+1);rw[<-hm1]at e' hl0 ih ⊢
    by_cases hyx:y<x
    .have g1:¬x<=y:=aa;rw[show decide (y<x)=true by simpa using hyx]at h0 h1;simp only[cond_true]at h0 h1;have:=ih h0 h1;simp(disch:=try exact ac)[hp,e',hl0,eI,eL,g1];simpa using this
    .have g1:x<=y:=aa;rw[show decide (y<x)=false by simpa using hyx]at h1;simp only[cond_false]at h1;simp(disch:=try exact ac)[hp,e',hl0,eI,eL,g1];simpa using h1
  .have hpf:bw x=false:=by simpa using hp
   simp only[xW,hpf,cond_false]at h1;simp[hpf];simpa using h1
def pcB(p:LiQ):Int:=if p.length=0 then 13 else if 6<p.length then 4 else xW none p
theorem J9(p:LiQ):decide (pcB p=0)=mX p:=by
 unfold pcB mX;by_cases h1:p.length=0
 .simp[h1]
 .by_cases h2:6<p.length
  .have:¬p.length<=6:=aa;simp[h1,h2,this]
  .rw[if_neg h1,if_neg h2,GN];have h3:0<p.length:=aa;have h4:p.length<=6:=aa;simp[h3,h4]
theorem yc(hN:p.length<1000000000):CP Y F.kx [lst di p] (I (pcB p)):=by
 refine FQ ?_;have lp':aj (lst di p)=some (I p.length):=rfl;by_cases h1:(p.length:Int)=0
 .have e:pcB p=13:=by unfold pcB;exact if_pos aa
  have hnil:p=[]:=Yv.1 aa;rw[e];subst hnil;simp[kx]<;>exact cF rfl
 have h1':¬p.length=0:=aa;have hne:¬p=[]:=fun e=>h1' (by rw[e];rfl)
 by_cases h2:(6:Int)<p.length
 .have e:pcB p=4:=by unfold pcB;exact(if_neg h1').trans (if_pos aa)
  rw[e];simp[kx,lp',h1,h2,hne]<;>exact cF rfl
 have e:pcB p=xW none p:=by unfold pcB;exact(if_neg h1').trans (if_neg aa)
 unfold kx;rw[e]
 have main:=Ob (exK [((.exit 1),fun l6 h=>out (I (xW none p)) (.d (.int .i64 0)) h),(.ret,fun l6 h=>out (I (xW none p)) (ge l6 0) h)]) p [] (by simpa using hN) (fun g=>by
  simp only[List.getLast?_nil]at g;simp only[fc];exact cF g.symm) (fun g=>by
  simp only[List.getLast?_nil]at g ⊢;simp only[sJ,vj];exact cF rfl)
 simp[lp',h1,h2,hne];exact main
theorem Qv(ha:ndg a<1000000)(hb:ndg b<1000000):CP Y F.lY [S (ag a),S (ag b)] (S (ag (a*b))):=by
 refine F8 ?_;have la:=mM a;have lb:=mM b;have bo:=Db a b;by_cases h18:(ndg a:Int)+(ndg b:Int)<=18
 .rw[if_pos ⟨aa,aa⟩]at bo
  have hm:a*b<1000000000000000000:=by
   have h1:=ci a;have h2:=ci b;have h3:a*b<10^ndg a*10^ndg b:=Y6 h1 h2;rw[<-Zr]at h3;have h4:10^(ndg a+ndg b)<=10^18:=Z6 ae aa;exact Z3 h3 h4
  obtain⟨m,hmm⟩:=mnQ (a*b);have e1:(a:Int)*(b:Int)=(m:Int):=by rw[<-hmm];simp
  rw[hmm]at hm ⊢;simp(disch:=try exact ac)[lY,la,lb,h18];refine cd bo ?_;simp(disch:=try exact ac)[e1];refine cd (AT (n:=m) aa) ?_;exact fw rfl
 .obtain⟨ca,hca⟩:=nmQ (ndg a/9+1);obtain⟨cb,hcb⟩:=nmQ (ndg b/9+1);have ltA:a<Z^ca:=Z3 (ci a) (by rw[uK];exact Z6 ae aa);have ltB:b<Z^cb:=Z3 (ci b) (by rw[uK];exact Z6 ae aa)
  have cA:=tR (h:=[nnQ,nnQ,nnQ]) rfl (n:=a) aa hca;have lA:(bv ca a).length=ca:=c9 ..;have lB:(bv cb b).length=cb:=c9 ..;have cB:=tR (h:=[(1,.data 1 ((bv ca a).map u6) true false),nnQ,nnQ]) rfl (n:=b) aa hcb;simp(disch:=try exact ac)[lY,la,lb,h18];refine dX (eU (e:=0) (b:=.none) cA rfl ?_)
  rw[Zd,lA];simp;refine dX (eU (e:=0) (b:=.none) cB rfl ?_);rw[Zd,lB];simp;have rA:=Di (h:=[(1,.data 1 ((bv ca a).map u6) true false),(1,.data 1 ((bv cb b).map u6) true false),nnQ]) (s:=0) (e:=1) (len:=(dig Z a).length) (cap:=ca) (ex:=true) (fr:=false) rfl lA.symm (jp ltA)
  have rB:=Di (h:=[(1,.data 1 ((bv ca a).map u6) true false),(1,.data 1 ((bv cb b).map u6) true false),nnQ]) (s:=1) (e:=1) (len:=(dig Z b).length) (cap:=cb) (ex:=true) (fr:=false) rfl lB.symm (jp ltB);rw[og ltA]at rA;rw[og ltB]at rB;have dA:=jp ltA;have dB:=jp ltB;obtain⟨N,hN⟩:=nmQ ((dig Z a).length+(dig Z b).length)
  have tp:=Ay (h:=[(1,.data 1 ((bv ca a).map u6) true false),(1,.data 1 ((bv cb b).map u6) true false),nnQ]) rfl rA (aJ ah a) rB (aJ ah b) aa aa hN
  have ltM:a*b<Z^N:=by
   rw[hN,Zr];have h1:=gr aU (aJ ah a);have h2:=gr aU (aJ ah b);rw[bG ah]at h1 h2;exact Y6 h1 h2
  rw[bG ah,bG ah]at tp;have lM:(bv N (a*b)).length=N:=c9 ..;refine dX (eU (e:=0) (b:=.none) tp rfl ?_);rw[Zd,lM];simp
  have sM:=wA (h:=[(1,.data 1 ((bv ca a).map u6) true false),(1,.data 1 ((bv cb b).map u6) true false),(1,.data 1 ((bv N (a*b)).map u6) true false)]) (s:=2) rfl lM.symm (len:=(dig Z (a*b)).length) (cap:=N) (jp ltM) (Z7 _);rw[og ltM]at sM;simp only[List.set_cons_zero,List.set_cons_succ]at sM
  have sMs:av [(1,.data 1 ((bv ca a).map u6) true false),(1,.data 1 ((bv cb b).map u6) true false),(1,.data 1 ((bv N (a*b)).map u6) true false)] [.ref 2 1 0 (dig Z (a*b)).length N N]=some ([pcs (a*b)],[(1,.data 1 ((bv ca a).map u6) true false),(1,.data 1 ((bv cb b).map u6) true false),(1,.data 1 ((bv N (a*b)).map u6) true true)]):=by
   simp only[av,sM];rfl
  refine cdz sMs (xl (n:=a*b) (by have:=jp ltM;omega)) ?_;rw[show gh (S (ag (a*b)))=true from rfl,if_pos rfl];exact fw rfl
theorem Fq(p n:Int):CP Y F.fu [I p,I n] (I (cond (bw p) (if n<0∨1000<n then 3 else 0) 25)):=by
 refine uq ?_;simp(disch:=try exact ac)[fu];refine cd (B4 p) ?_;cases hp:bw p with
 |false=>simp(disch:=try exact ac)<;>exact cF rfl
 | true=>
  by_cases h1:n<0
  .simp(disch:=try exact ac)[h1]<;>exact cF (by simp[h1])
  .by_cases h2:1000<n
   .simp(disch:=try exact ac)[h1,h2]<;>exact cF (by simp[h1,h2])
   .simp(disch:=try exact ac)[h1,h2]<;>exact cF (by simp[h1,h2])
theorem rO{B:Nat}{a b:LnQ}(ha:aw B a)(hb:aw B b):aw B (a++b):=by
 intro x hx;rcases Wx.1 hx with h|h
 .exact ha x h
 .exact hb x h
theorem qj(k:Nat):aw Z (List.replicate k 0):=by intro x hx;rw[List.eq_of_mem_replicate hx];exact aU
theorem uO(k:Nat)(l:LnQ):val Z (l++List.replicate k 0)=val Z l:=by
 rw[val_append]
 have:val Z (List.replicate k 0)=0:=by
  induction k with
  |zero=>rfl
  |succ k ih=>rw[List.replicate_succ];exact(congrArg (fun x=>0+Z*x) ih).trans (by rw[Nat.mul_zero])
 rw[this,Nat.mul_zero,Nat.add_zero]
theorem abi{q ce B:Nat}(hB:2<=B)(h3:x+q*B*ce=a+b)(l1:a<q)(l2:b<q):x=a+b:=by
 rcases Zl ce with h|h
 .subst h;rw[Nat.mul_zero,Nat.add_zero]at h3;exact h3
 .have h1:=Zy (q*B) h;have h2:=Zy q hB;omega
theorem Uu{D:LnQ}(hA:A.length=n)(hD:D.length=n)(sA:aw Z A)(sD:aw Z D)(va:val Z A=a)(vb:val Z D=b):
  val Z (rq 0 D (D.length+1) 0 0 (A++[0]))=a+b∧aw Z (rq 0 D (D.length+1) 0 0 (A++[0]))∧(rq 0 D (D.length+1) 0 0 (A++[0])).length=n+1:=by
 have sA0:aw Z (A++[0]):=rO sA (qj 1);obtain⟨h1,h2,ce,h3⟩:=Fx (at_:=0) sD (D.length+1) 0 0 (A++[0]) ak aa sA0;have e1:D.drop (0+(D.length+1))=[]:=Zv aa;have e2:val Z (A++[0])=a:=by rw[show([0]:LnQ)=List.replicate 1 0 from rfl,uO,va]
 have e0:val Z ([]:LnQ)=0:=rfl;rw[e1,e2,e0]at h3;have l1:=gr aU sA;have l2:=gr aU sD;rw[va,hA]at l1;rw[vb,hD]at l2;have hl:(rq 0 D (D.length+1) 0 0 (A++[0])).length=n+1:=by rw[h1.1];simp[hA]
 refine⟨?_,h2,hl⟩;rw[hD]at h3 ⊢;have h2Z:=ah;generalize val Z (rq 0 D (n+1) 0 0 (A++[0]))=x at *;simp only[Yp,vb,Nat.add_zero,Zn,Nat.pow_zero,Ye,Nat.pow_succ]at h3;exact abi h2Z h3 l1 l2
theorem U8(k:Nat):fS k [D.int .u64 0]=(List.replicate k 0).map u6:=by
 induction k with
 |zero=>rfl
 |succ k ih=>rw[List.replicate_succ,Y7,<-ih];rfl
theorem MQ(a w:Nat)(hw:w<=18):CP Y F.bF [S (ag a),I w] (if ndg a<=w then .tup [I a,B true]else .tup [I 0,B false]):=by
 refine rT ?_;have la:=mM a;by_cases h:(w:Int)<ndg a
 .rw[if_neg aa];simp[bF,la,h];exact eX rfl rfl
 .rw[if_pos aa];have ap:=De (n:=a) (k8 a) aa (ci a);have en:biF .eql (.d (.pl .nilIface)) (.d (.pl .nilIface))=some (.d (.bool true)):=rfl;simp[bF,la,h];refine cd (args:=[S (ag a)]) ap ?_;simp[en];exact eX rfl rfl
theorem Gx(a:Nat):CP Y F.ba [S (ag a)] (.tup [B false,S (ag a)]):=by have h:=rW (ag a);have e1:rdN (ag a)=false:=decide_eq_false (qO a);have e2:rdT (ag a)=ag a:=if_neg (qO a);rw[e1,e2]at h;exact h
theorem Tf(s:LuQ):CP Y F.cO [B false,S s] (S s):=by refine yT ?_;simp[cO]<;>exact fw rfl
theorem VS(h:n<18446744073709551616):CP Y F.kM [.d (.int .u64 n)] (I (eY n)):=by refine Cn ?_;simp[kM];refine cd (Eo h) ?_;simp<;>exact cF rfl
theorem Ng{h:Hp}(hu:(h.all fun x=>aT h.length x.2)=true)(hl:0<l.length)(hb:l.length<1000000000000):CI Y F.aF [lst u6 l] h (.new 1 (l.map u6) false l.length l.length) h:=by
 refine ip ?_;simp(disch:=try exact ac)[aF]
 have hli:fj 0 [D.int IntKind.u64 0] [] (h++[(0,Bk.none),(0,Bk.none)])=some ([],h++[(0,Bk.none),(0,Bk.none)]):=by
  simp[fj,fS,hO]
 rw[hli];simp(disch:=try exact ac);refine uC (z:=[]) ae hl af aa ?_;simp(disch:=try exact ac);refine⟨af,?_,.inr (.inr (.inl ⟨h.length+1,1,l.length,l.length,1,l.map u6,false,af,aa,by simp[aH],rfl⟩))⟩;simp only[Xz,hu,Y9]
 try simp[aT]
abbrev UN(n:Nat):V:=.d (.int .u64 (n:Int))
theorem UC(h:a<18446744073709551616):biI .and (UN a) (UN 4294967295)=some (UN (a%4294967296)):=by
 have ea:(BitVec.ofInt 64 (a:Int)).toNat=a:=by simp[BitVec.toNat_ofInt];omega
 have eb:(BitVec.ofInt 64 ((4294967295:Nat):Int)).toNat=4294967295:=by rfl
 have hm:a&&&4294967295=a%4294967296:=Nat.and_two_pow_sub_one_eq_mod a 32;have e:(BitVec.ofInt 64 (a:Int)&&&BitVec.ofInt 64 ((4294967295:Nat):Int)).toNat=a%4294967296:=by rw[BitVec.toNat_and,ea,eb,hm]
 show mB (some (Value.int .u64 (IntKind.wrap .u64 ((BitVec.ofInt 64 (a:Int)&&&BitVec.ofInt 64 ((4294967295:Nat):Int)).toNat:Int))))=_
 rw[e,wrap_u64 aa];rfl
theorem aaA(ha:a<18446744073709551616)(hb:b<18446744073709551616):biI .or (UN a) (UN b)=some (UN (a|||b)):=by
 have h:a|||b<2^64:=Nat.or_lt_two_pow (n:=64) ha hb;have ea:(BitVec.ofInt 64 (a:Int)).toNat=a:=by simp[BitVec.toNat_ofInt];omega
 have eb:(BitVec.ofInt 64 (b:Int)).toNat=b:=by simp[BitVec.toNat_ofInt];omega
 have e:(BitVec.ofInt 64 (a:Int)|||BitVec.ofInt 64 (b:Int)).toNat=a|||b:=by rw[BitVec.toNat_or,ea,eb]
 show mB (some (Value.int .u64 (IntKind.wrap .u64 ((BitVec.ofInt 64 (a:Int)|||BitVec.ofInt 64 (b:Int)).toNat:Int))))=_
 rw[e,wrap_u64 aa];rfl
theorem JR(a:Nat):biI .shr (UN a) (UN 32)=some (UN (a/4294967296)):=by
 have:=AG (k:=.u64) (l:=.u64) (a:=a) (b:=32) ae
 rwa [show(2:Nat)^32=4294967296 from rfl]at this
theorem SD(a b:Nat):biI .mul (UN a) (UN b)=some (UN (a*b%18446744073709551616)):=by
 have:IntKind.wrap .u64 ((a:Int)*b)=((a*b%18446744073709551616:Nat):Int):=by
  rw[<-Int.natCast_mul];unfold IntKind.wrap;simp[IntKind.bits,IntKind.signed]
 rw[I8,this]
theorem MK(x0 x1 y0 y1 B:Nat)(hB:0<B):(x1*B+x0)*(y1*B+y0)/(B*B)=x1*y1+(x1*y0+x0*y0/B)/B+((x1*y0+x0*y0/B)%B+x0*y1)/B:=by
 have e:(x1*B+x0)*(y1*B+y0)=x0*y0+B*(x1*y0+x0*y1+B*(x1*y1)):=by
  simp only[Nat.add_mul,Nat.mul_add];have e1:x1*B*(y1*B)=B*(B*(x1*y1)):=by simp only[Zw,Yt]
  have e2:x1*B*y0=B*(x1*y0):=by simp only[Zw,Yt]
  have e3:x0*(y1*B)=B*(x0*y1):=by simp only[Zw,Yt]
  rw[e1,e2,e3];omega
 rw[e,<-Ze,Yx _ _ hB];generalize x0*y0/B=c;have e2:c+(x1*y0+x0*y1+B*(x1*y1))=(x1*y0+c+x0*y1)+B*(x1*y1):=aa;rw[e2,Yx _ _ hB];generalize x1*y0+c=t;have e3:t+x0*y1=(t%B+x0*y1)+B*(t/B):=by have:=Yi t B;omega
 rw[e3,Yx _ _ hB];omega
theorem SE(ha:a<18446744073709551616)(hb:b<18446744073709551616):CP Y F.fF [UN a,UN b] (.tup [UN (a*b/18446744073709551616),UN (a*b%18446744073709551616)]):=by
 refine tt ?_;obtain⟨x0,hx0⟩:=nmQ (a%4294967296);obtain⟨x1,hx1⟩:=nmQ (a/4294967296);obtain⟨y0,hy0⟩:=nmQ (b%4294967296);obtain⟨y1,hy1⟩:=nmQ (b/4294967296);have bx0:x0<=4294967295:=aa;have bx1:x1<=4294967295:=aa;have by0:y0<=4294967295:=aa;have by1:y1<=4294967295:=aa
 have m00:x0*y0<=4294967295*4294967295:=Zg bx0 by0;have m10:x1*y0<=4294967295*4294967295:=Zg bx1 by0;have m01:x0*y1<=4294967295*4294967295:=Zg bx0 by1;have m11:x1*y1<=4294967295*4294967295:=Zg bx1 by1;have e:=MK x0 x1 y0 y1 4294967296 ae;rw[show x1*4294967296+x0=a by omega,show y1*4294967296+y0=b by omega]at e
 have hab:a*b/(4294967296*4294967296)<=18446744073709551615:=by
  have:a*b<=18446744073709551615*18446744073709551615:=Zg aa aa;omega
 have q1:=zx (a:=x0) (b:=y0) aa;have q2:=zx (a:=x1) (b:=y0) aa;have q3:=qF (a:=x1*y0) (b:=x0*y0/4294967296) aa;have q4:=UC (a:=x1*y0+x0*y0/4294967296) aa;have q5:=zx (a:=x0) (b:=y1) aa;have q6:=qF (a:=(x1*y0+x0*y0/4294967296)%4294967296) (b:=x0*y1) aa;have q7:=zx (a:=x1) (b:=y1) aa
 have q8:=qF (a:=x1*y1) (b:=(x1*y0+x0*y0/4294967296)/4294967296) aa;have q9:=qF (a:=x1*y1+(x1*y0+x0*y0/4294967296)/4294967296) (b:=((x1*y0+x0*y0/4294967296)%4294967296+x0*y1)/4294967296) aa;have r1:=UC ha;have r2:=UC hb;have r3:=JR a;have r4:=JR b;rw[<-hx0]at r1;rw[<-hy0]at r2;rw[<-hx1]at r3;rw[<-hy1]at r4
 have r1':biI .and (UN a) (.d (.int .u64 4294967295))=some (UN x0):=r1;have r2':biI .and (UN b) (.d (.int .u64 4294967295))=some (UN y0):=r2;have r3':biI .shr (UN a) (.d (.int .u64 32))=some (UN x1):=r3;have r4':biI .shr (UN b) (.d (.int .u64 32))=some (UN y1):=r4;have s1:biI .shr (UN (x0*y0)) (.d (.int .u64 32))=some (UN (x0*y0/4294967296)):=JR _
 have q4':biI .and (UN (x1*y0+x0*y0/4294967296)) (.d (.int .u64 4294967295))=some (UN ((x1*y0+x0*y0/4294967296)%4294967296)):=q4;have s2:biI .shr (UN (x1*y0+x0*y0/4294967296)) (.d (.int .u64 32))=some (UN ((x1*y0+x0*y0/4294967296)/4294967296)):=JR _
 have s3:biI .shr (UN ((x1*y0+x0*y0/4294967296)%4294967296+x0*y1)) (.d (.int .u64 32))=some (UN (((x1*y0+x0*y0/4294967296)%4294967296+x0*y1)/4294967296)):=JR _;have mw:=SD a b;simp only[fF,r1',r2',r3',r4',aD,q1,q2,s1,q3,q4',s2,q5,q6,q7,q8,s3,q9,mw];rw[<-e];exact eX rfl rfl
def E62:Nat:=4611686018427387904
def E63:Nat:=9223372036854775808
def M4:Nat->Nat->Nat->Nat->Option Nat
 |0,_,_,out=>some out
 | r+1,low,high,out=>
  cond (Nat.ble E63 (low*low/E62)) (M4 r (low*low/E62/2) ((high*high/E62+1)/2+1) (out*2+1))
   (cond (Nat.ble E63 (high*high/E62+1)) none (M4 r (low*low/E62) (high*high/E62+1) (out*2)))
def adm(p:Nat):Option Nat:=M4 26 (p*2^(62-(eY p-1))) (p*2^(62-(eY p-1))) (eY p-1)
def W6:Nat:=2^64
theorem mV:W6=18446744073709551616:=rfl
theorem jd:0<W6:=ae
def wds:Nat->Nat->LnQ
 |0,_=>[]
 |n+1,v=>v%W6::wds n (v/W6)
theorem bc:∀(n v:Nat),(wds n v).length=n
 |0,_=>rfl
 |n+1,v=>by simp[wds,bc n]
theorem oO:∀{n v i:Nat},i<n->nth 0 (wds n v) i=v/W6^i%W6
 |n+1,v,0,_=>by simp[wds,nth]
 | n+1,v,i+1,h=>by
  have:=oO (n:=n) (v:=v/W6) (i:=i) aa;rw[Nat.pow_succ,Zw,<-Ze,<-this];rfl
theorem Do:∀(n v:Nat),wds (n+1) v=wds n v++[v/W6^n%W6]
 |0,v=>by simp[wds]
 | n+1,v=>by
  rw[wds,Do n,wds];simp[Nat.pow_succ,Zw,Ze]
theorem Nv(v:Nat):v%W6<18446744073709551616:=Zk _ jd
theorem Jg(w:Nat):2^(64*w)=W6^w:=Xc 2 64 w
theorem L8(A:Nat)(hr:r<64):A/2^r%W6=A%W6/2^r+A/W6%W6*2^(64-r)%W6:=by
 have e:W6=2^r*2^(64-r):=by rw[<-Zr];show 2^64=_;congr 1;omega
 have hS:=Zp r;have hT:=Zp (64-r);rw[e];generalize 2^r=S at *;generalize 2^(64-r)=T at *;have hW:=Y4 hS hT;obtain⟨q,x,hA,hx⟩:∃q x,A=S*T*q+x∧x<S*T:=⟨A/(S*T),A%(S*T),(Zb ..).symm,Zk _ hW⟩;obtain⟨u,t,hq,ht⟩:∃u t,q=S*u+t∧t<S:=⟨q/S,q%S,(Zb ..).symm,Zk _ hS⟩
 have e1:A/(S*T)=q:=by rw[hA,Ww hW,Zh hx,Nat.add_zero]
 have e2:A%(S*T)=x:=by rw[hA,Xf,Zj hx]
 have e3:A/S=T*q+x/S:=by rw[hA,Nat.mul_assoc,Ww hS]
 have hxS:x/S<T:=Y8 hx
 have hTt:T*t+T<=S*T:=by
  have:=Zy T (show t+1<=S from ht);rw[Nat.mul_add,Y0]at this;rw[Zw S T];exact this
 have e4:q*T%(S*T)=T*t:=by
  rw[Zw S T,Zw q T,Xb,hq,Xf,Zj ht]
 have e5:q%(S*T)*T%(S*T)=T*t:=by rw[Nat.mod_mul_mod,e4]
 have e6:(T*q+x/S)%(S*T)=T*t+x/S:=by
  rw[hq,show T*(S*u+t)+x/S=S*T*u+(T*t+x/S) by rw[Nat.mul_add,Zw S T,Nat.mul_assoc];omega,Xf,Zj aa]
 rw[e3,e6,e2,e1,e5,Yf]
def eH(o:LnQ):Hp:=[(1,.data 1 (o.map u6) true false)]
theorem eI(hn:o.length=n)(hi:i<n):ixV (eH o) 1 (.ref 0 1 0 n n n) (.d (.int .i64 (i:Int)))=some (.ptr 0 1 i n):=ixB rfl hn hi _
theorem eL(hn:o.length=n)(hi:i<n):ld1 (eH o) (.ptr 0 1 i n)=some (UN (nth 0 o i)):=ldB 0 (f:=u6) rfl hn hi
theorem eS(hn:o.length=n)(hi:i<n):st (eH o) 1 (.ptr 0 1 i n) (UN x)=some (eH (o.set i x)):=stB (f:=u6) rfl hn hi (x:=x) rfl
theorem tE(hi:i<l.length)(H:Hp):ixV H 1 (lst u6 l) (I i)=some (.dptr (l.map u6) i)∧ld1 H (.dptr (l.map u6) i)=some (UN (nth 0 l i)):=
 ⟨jL u6 l H rfl hi,lC u6 0 l H hi⟩
theorem TG{n v w r m:Nat}(hv:v<W6^n)(hm:n=w+m)(hr:r<64)(hN:n<1000000000)(K:KL)(h0:Hp)(hh:h0.length=1):∀(k i:Nat),i+k=m->K (.exit 0) [] (eH (wds m (v/2^(64*w+r)))) ->
  lp (eC (CX Y) (lst u6 (wds n v)) (I w) (I r) (.ref 0 1 0 m m m) (I m)) [] h0 [I i] (eH (wds i (v/2^(64*w+r))++List.replicate k 0)) K
 | 0,i,hi,hK=>by
  have e:i=m:=aa;subst e;refine ai ?_;simp[eC];exact hK
 | k+1,i,hi,hK=>by
  have ih:=TG hv hm hr hN K h0 hh k (i+1) aa hK;obtain⟨V,hV⟩:=nmQ (v/2^(64*w+r));rw[<-hV]at ih ⊢
  have hA:V/W6^i=v/W6^(i+w)/2^r:=by
   rw[hV,Zr 2,Jg,Ze,Ze,Zr W6];congr 1
   ac_rfl
  have hT:=L8 (v/W6^(i+w)) hr;rw[<-hA,Ze,<-Nat.pow_succ]at hT;have hlen:(wds n v).length=n:=bc n v;obtain⟨x,hx⟩:=nmQ (v/W6^(i+w)%W6);have hxl:=Nv (v/W6^(i+w));rw[<-hx]at hT hxl;have hzl:x/2^r<18446744073709551616:=Zu (Y5 _ _) hxl;obtain⟨z,hz⟩:=nmQ (x/2^r);rw[<-hz]at hT hzl
  have i1:=fun H=>(tE (l:=wds n v) (i:=i+w) aa H).1
  have i2:=fun H=>(tE (l:=wds n v) (i:=i+w) aa H).2
  simp only[oO (show i+w<n by omega),<-hx]at i2;have ei:((i+w:Nat):Int)=(i:Int)+w:=af;simp only[ei]at i1;have wl:∀y,(wds i V++y::List.replicate k 0).length=m:=fun y=>by simp[bc];omega
  have cK:∀y z,(wds i V++y::List.replicate k 0).set i z=wds i V++z::List.replicate k 0:=fun y z=>by
   rw[X9 _ _ (by rw[bc];exact Z7 _),bc,Nat.sub_self];rfl
  have hnth:∀y,nth 0 (wds i V++y::List.replicate k 0) i=y:=fun y=>by
   have:=mf 0 (wds i V) y (List.replicate k 0)
   rwa [bc]at this
  have sI:=fun y=>eI (wl y) (i:=i) aa
  have sL:=fun y=>eL (wl y) (i:=i) aa
  have sS:=fun y z=>eS (x:=z) (wl y) (i:=i) aa
  simp only[cK,hnth]at sL sS;have sh:biI .shr (UN x) (I r)=some (UN z):=by rw[hz];exact AG (by show r<=64;omega)
  have fin:∀y,y=V/W6^i%W6->wds i V++y::List.replicate k 0=wds (i+1) V++List.replicate k 0:=fun y hy=>by rw[Do,hy,List.append_assoc];rfl
  have e2:((i+1:Nat):Int)=(i:Int)+1:=af;rw[e2]at ih;have gi:(i:Int)<m:=aa;have ll:aj (lst u6 (wds n v))=some (I n):=by rw[show aj (lst u6 (wds n v))=some (I (wds n v).length)from rfl,hlen]
  have hre:∀y,bm [] 0 h0 (eH (wds i V++y::List.replicate k 0))=eH (wds i V++y::List.replicate k 0):=fun y=>iV 0 h0 _ (by rw[hh];rfl)
  rw[List.replicate_succ];by_cases hc:0<r∧i+w+1<n
  .obtain⟨r0,hn⟩:=hc;obtain⟨y,hy⟩:=nmQ (v/W6^(i+w+1)%W6);have hyl:=Nv (v/W6^(i+w+1));rw[<-hy]at hT hyl;have j1:=fun H=>(tE (l:=wds n v) (i:=i+w+1) aa H).1
   have j2:=fun H=>(tE (l:=wds n v) (i:=i+w+1) aa H).2
   simp only[oO (show i+w+1<n by omega),<-hy]at j2;have ej:((i+w+1:Nat):Int)=(i:Int)+w+1:=af;simp only[ej]at j1;obtain⟨u,hu⟩:=nmQ (y*2^(64-r)%W6);have hul:u<18446744073709551616:=by rw[hu];exact Nv _
   rw[<-hu]at hT
   have sl:biI .shl (UN y) (I ((64:Int)-r))=some (UN u):=by
    rw[NO aa aa,xh,hu];congr 4;rw[show((64:Int)-r).toNat=64-r by omega,mV];simp
   have ob:biI .or (UN z) (UN u)=some (UN (z+u)):=by
    have e:W6=2^r*2^(64-r):=by rw[<-Zr];show 2^64=_;congr 1;omega
    have hz2:z<2^(64-r):=by
     rw[hz];refine Y8 ?_;rw[<-e];exact hxl
    rw[aaA hzl hul,hu,e,Zw y,Zw (2^r),Xb,MC hz2]
   have g1:(0:Int)<r:=aa;have g2:(i:Int)+w+1<n:=aa;refine ai ?_;simp(disch:=try exact ac)[eC,gi];refine aE ?_;simp(disch:=try exact ac)[i1,i2,sh,sI,sS,sL,ll,g1,g2];refine aE ?_;simp(disch:=try exact ac)[j1,j2,sl,ob,sI,sS,sL,hre];rw[fin _ hT.symm];exact ih
  ·have hz0:z=V/W6^i%W6:=by
    rw[hT];by_cases r0:r=0
    .subst r0;rw[show v/W6^(i+w+1)%W6*2^(64-0)%W6=0 from Nat.mul_mod_left _ _];rfl
    .have:v/W6^(i+w+1)=0:=Zh (Z3 hv (Z6 jd aa));rw[this];simp
   refine ai ?_;simp(disch:=try exact ac)[eC,gi];refine aE ?_;by_cases r0:r=0
   .subst r0;have hzx:z=x:=by simpa using hz
    subst hzx;simp(disch:=try exact ac)[i1,i2,sh,sI,sS,sL,ll];refine aE ?_;simp(disch:=try exact ac)[hre];rw[fin _ hz0];exact ih
   .have g1:(0:Int)<r:=aa;have g2:¬(i:Int)+w+1<n:=aa;simp(disch:=try exact ac)[i1,i2,sh,sI,sS,sL,ll,g1,g2];refine aE ?_;simp(disch:=try exact ac)[hre];rw[fin _ hz0];exact ih
theorem uo(hv:v<W6^n)(hb:b/64<n)(hN:n<1000000000)(hb2:b<1000000000):CP Y F.bq [lst u6 (wds n v),I b] (lst u6 (wds (n-b/64) (v/2^b))):=by
 refine s7 ?_;obtain⟨w,hw⟩:=mnQ (b/64);obtain⟨r,hr⟩:=mnQ (b%64);rw[hw]at hb ⊢;obtain⟨m,hm⟩:∃m,n=w+m:=⟨n-w,aa⟩;have m0:0<m:=aa;have e1:n-w=m:=aa;have e2:64*w+r=b:=aa;have l0:=fun K h=>TG hv hm (r:=r) aa hN K (eH (wds 0 (v/2^b)++List.replicate m 0)) rfl m 0 aa h
 rw[e2]at l0;rw[e1];have q1:(b:Int).tdiv 64=(w:Int):=by rw[Z1 aa];omega
 have q2:(b:Int).tmod 64=(r:Int):=by rw[Z4 aa];omega
 have q3:(n:Int)-(w:Int)=(m:Int):=aa
 have mx:mxI true [I m,I 0]=some (I m):=by
  have g:¬(m:Int)<0:=aa;simp[mxI,mx2]
  try omega
 simp(disch:=try exact ac)[bq,q1,q2,q3,bc,mx];have e0:List.replicate m (D.int IntKind.u64 0)=(wds 0 (v/2^b)++List.replicate m 0).map u6:=by simp[u6,wds]
 rw[e0];refine lo (l0 _ ?_);refine⟨[(1,.data 1 ((wds m (v/2^b)).map u6) true true)],?_⟩;simp[aP,eH,toD,aH,lst,bc];exact Z0 (by simp[bc])
theorem ZI{m V:Nat}(hV:V<W6^m)(hN:m<1000000000)(K:KL)(H:Hp):∀(k i:Nat),i+k=m->(V/W6^i=0->K (.exit 0) [] H)->(V/W6^i≠0->K .ret [B true] H) ->
  lp (dz (CX Y) (lst u6 (wds m V)) (I m)) [] H [I i] H K
 | 0,i,hi,h0,_=>by
  have e:i=m:=aa;subst e;refine ai ?_;simp[dz];exact h0 (Zh hV)
 | k+1,i,hi,h0,h1=>by
  have i1:=(tE (l:=wds m V) (i:=i) (by rw[bc];omega) H).1;have i2:=(tE (l:=wds m V) (i:=i) (by rw[bc];omega) H).2;rw[oO aa]at i2;have gi:(i:Int)<m:=aa;have e2:((i+1:Nat):Int)=(i:Int)+1:=af;have es:V/W6^(i+1)=V/W6^i/W6:=by rw[Nat.pow_succ,Ze]
  have hre:bm [] 0 H H=H:=iV 0 H H rfl;generalize V/W6^i=A at *;refine ai ?_;by_cases h:A%W6=0
  .have ih:=ZI hV hN K H k (i+1) aa (fun e=>h0 (by rw[es]at e;have:=Zb A W6;rw[e,h]at this;omega)) (fun e=>h1 (fun a=>e (by rw[es,a];exact Nat.zero_div _)));rw[e2]at ih;rw[h]at i2;simp(disch:=try exact ac)[dz,gi,i1,i2,hre];exact ih
  .have hA:A≠0:=fun e=>h (by rw[e];rfl)
   obtain⟨x,hx⟩:=mnQ (A%W6);rw[hx]at h i2;simp(disch:=try exact ac)[dz,gi,i1,i2,h];exact h1 hA
theorem He(hv:v<W6^n)(hb:b/64<n)(hN:n<1000000000)(hb2:b<1000000000):CP Y F.cI [lst u6 (wds n v),I b] (B (decide (2^b<=v))):=by
 refine rG ?_;have sh:=uo hv hb hN hb2;obtain⟨m,hm⟩:=nmQ (n-b/64);rw[<-hm]at sh;have hp:=Zp b
 have hV:v/2^b<W6^m:=by
  refine Y8 ?_;have e:2^b=W6^(b/64)*2^(b%64):=by rw[<-Jg,<-Zr,Zb]
  have h1:W6^n=W6^(b/64)*W6^m:=by rw[<-Zr];congr 1;omega
  have h2:W6^(b/64)*1<=W6^(b/64)*2^(b%64):=Zy _ (Zp _);have h3:=Zx (W6^m) h2;rw[Y0]at h3;rw[e];omega
 have ll:aj (lst u6 (wds m (v/2^b)))=some (I m):=by rw[show aj (lst u6 (wds m (v/2^b)))=some (I (wds m (v/2^b)).length)from rfl,bc]
 have l0:=fun K=>ZI hV aa K [] m 0 aa
 simp[cI];refine cd sh ?_;simp[bc];refine lo (l0 _ (fun e=>?_) fun e=>?_)
 .rw[Nat.pow_zero,Nat.div_one]at e;exact bL (by simpa using(Nat.div_eq_zero_iff_lt hp).1 e)
 .rw[Nat.pow_zero,Nat.div_one]at e;exact bL (by simpa using Nat.le_of_not_lt fun h=>e (Zh h))
def kY:Prop:=∀x y c:Nat,x<18446744073709551616->y<18446744073709551616->c<=1->CP Y F.iW [UN x,UN y,UN c] (.tup [UN ((x+y+c)%W6),UN ((x+y+c)/W6)])
theorem xi:∀{n U j w:Nat},j<n->w<W6->(wds n U).set j w=wds n (U-U/W6^j%W6*W6^j+w*W6^j)
 | n+1,U,0,w,_,hw=>by
  have h:=Zb U W6;have e:U-U%W6+w=W6*(U/W6)+w:=aa;simp only[wds,List.set_cons_zero,Nat.pow_zero,Nat.div_one,Y0];rw[e,Xf,Zj hw,Ww jd,Zh hw,Nat.add_zero]
 | n+1,U,j+1,w,h,hw=>by
  have ih:=xi (n:=n) (U:=U/W6) (j:=j) (w:=w) aa hw;rw[Ze,<-Nat.pow_succ']at ih;simp only[wds,List.set_cons_succ,ih]
  have hle:U/W6^(j+1)%W6*W6^j<=U/W6:=by
   have h1:=X0 (U/W6) (W6^j);rw[Ze,<-Nat.pow_succ']at h1;exact Zs (Zx _ (Nat.mod_le _ _)) h1
  obtain⟨a,ha⟩:=nmQ (U/W6^(j+1)%W6*W6^j);have e1:U/W6^(j+1)%W6*W6^(j+1)=W6*a:=by rw[ha,Nat.pow_succ];ac_rfl
  have e2:w*W6^(j+1)=W6*(w*W6^j):=by rw[Nat.pow_succ];ac_rfl
  rw[<-ha]at hle;rw[e1,e2,<-ha];generalize w*W6^j=b;have hU:=Zb U W6;have hm:=Zy W6 hle
  have e3:U-W6*a+W6*b=W6*(U/W6-a+b)+U%W6:=by
   rw[Nat.mul_add,Nat.mul_sub];omega
  rw[e3,Xf,Nat.mod_mod,Ww jd,Zh (Zk _ jd),Nat.add_zero]
def nH(s0:Nat×Bk)(o:LnQ):Hp:=[(1,.data 1 (o.map u6) false false),s0]
theorem ZJ(A:kY){v N:Nat}(hN:N<1000000000)(K:KL)(s0:Nat×Bk)(h0:Hp)(hh:h0.length=2):∀(k i U c:Nat),i+k=N->c<=1->U+c*W6^i=v+1->(∀U' c',U'+c'*W6^N=v+1->c'<=1->K (.exit 0) [] (nH s0 (wds N U'))) ->
  lp (gY (CX Y) (.ref 0 1 0 N N N) (I N)) [] h0 [UN c,I i] (nH s0 (wds N U)) K
 | 0,i,U,c,hi,hc,hU,hK=>by
  have e:i=N:=aa;subst e;refine ai ?_;simp[gY];exact hK U c hU hc
 | k+1,i,U,c,hi,hc,hU,hK=>by
  obtain⟨x,hx⟩:=nmQ (U/W6^i%W6);have hxl:x<18446744073709551616:=by rw[hx];exact Nv _
  have ad:=A x 0 c hxl ae hc;rw[Nat.add_zero]at ad;obtain⟨y,hy⟩:=nmQ ((x+c)%W6);obtain⟨d,hd⟩:=nmQ ((x+c)/W6);have hdm:W6*d+y=x+c:=by rw[hy,hd];exact Zb _ _
  have hyl:y<W6:=by rw[hy];exact Zk _ jd
  have hd1:d<=1:=by
   rw[hd];have:(x+c)/W6<2:=Y8 (by rw[mV];omega);omega
  rw[<-hy,<-hd]at ad;have hp:=Yq (n:=i) jd
  have hle:x*W6^i<=U:=by
   rw[hx];exact Zs (Zx _ (Nat.mod_le _ _)) (X0 _ _)
  have ih:=ZJ A hN K s0 h0 hh k (i+1) (U-x*W6^i+y*W6^i) d aa hd1 (by
   have e1:d*W6^(i+1)+y*W6^i=(x+c)*W6^i:=by rw[<-hdm,Nat.add_mul,Nat.pow_succ];congr 1;ac_rfl
   rw[Nat.add_mul]at e1;omega) hK
  have hnx:nth 0 (wds N U) i=x:=by rw[oO aa,hx]
  have hs:(wds N U).set i y=wds N (U-x*W6^i+y*W6^i):=by rw[xi aa hyl,hx]
  have i1:ixV (nH s0 (wds N U)) 1 (.ref 0 1 0 N N N) (I i)=some (.ptr 0 1 i N):=ixB rfl (bc N U) aa _;have i2:ld1 (nH s0 (wds N U)) (.ptr 0 1 i N)=some (UN x):=by rw[<-hnx];exact ldB 0 (f:=u6) rfl (bc N U) aa
  have i3:st (nH s0 (wds N U)) 1 (.ptr 0 1 i N) (UN y)=some (nH s0 (wds N (U-x*W6^i+y*W6^i))):=by rw[<-hs];exact stB (f:=u6) rfl (bc N U) aa (x:=y) rfl
  have gi:(i:Int)<N:=aa;have e2:((i+1:Nat):Int)=(i:Int)+1:=af;rw[e2]at ih;have hre:∀o,bm [] 0 h0 (nH s0 o)=nH s0 o:=fun o=>iV 0 h0 _ (by rw[hh];rfl)
  refine ai ?_;simp(disch:=try exact ac)[gY,gi,i1,i2];refine cd ad ?_;simp(disch:=try exact ac)[i1,i3,hre];exact ih
theorem Lb(A:kY)(hn:0<n)(hN:n<100000000)(hv:v<W6^n):CP Y F.dj [lst u6 (wds n v)] (lst u6 (wds (n+1) (v+1))):=by
 refine tJ ?_;have cl:=Ng (h:=[nnQ,nnQ]) (by simp[aT]) (l:=wds n v) (by rw[bc];exact hn) (by rw[bc];omega);have hz:wds n v++[0]=wds (n+1) v:=by rw[Do,Zh hv];rfl
 have ap:∀(k:kkQ),apV false 1 1 8 (.ref 0 1 0 n n n) (.d (.sl 1 [.int .u64 0])) (nH nnQ (wds n v)) k=k (.ref 0 1 0 (n+1) (n+1) (n+1)) (nH nnQ (wds (n+1) v)):=fun k=>by
  have e:(wds n v).map u6++[D.int .u64 0]=(wds (n+1) v).map u6:=by rw[<-hz];simp[u6]
  show apC false 1 1 8 (.ref 0 1 0 n n n) 1 [.int .u64 0] (nH nnQ (wds n v)) k=_
  unfold apC;rw[if_neg ae];have hg:aH (nH nnQ (wds n v)) 0 1=.data 1 ((wds n v).map u6) false false:=rfl;have hl:((wds n v).map u6).length=n:=by simp[bc]
  simp only[hg,hl,true_and,Zn,Y0];rw[if_pos ⟨Z7 _,Z7 _,rfl⟩,if_neg aa,if_pos aa];simp only[Zi,if_false,Bool.or_self];rw[if_pos af,Yp,Z0 aa,e];rfl
 have li:∀H,fj 1 [D.int IntKind.u64 0] [(0,V.d (D.int IntKind.u64 0))] H=some ([.int .u64 0],H):=fun H=>rfl
 have l0:=fun K hK=>ZJ A (v:=v) (N:=n+1) aa K nnQ (nH nnQ (wds (n+1) v)) rfl (n+1) 0 v 1 aa ae af hK
 simp(disch:=try exact ac)[dj];refine dX (eU (s:=0) (e:=0) (b:=.none) cl rfl ?_);simp(disch:=try exact ac)[li];rw[bc];refine Eq.mpr (ap _) ?_;simp(disch:=try exact ac);refine lo (l0 _ fun U' c' hU hc=>?_);have hp:=Z6 jd (show n+1<=n+1 by omega)
 have hv1:v+1<W6^(n+1):=by
  rw[Nat.pow_succ];have:=Zy (W6^n) (show 2<=W6 by decide);have:=Yq (n:=n) jd;omega
 have c0:c'=0:=by
  rcases Zl c' with h|h
  .exact h
  .have:=Zx (W6^(n+1)) h;omega
 have e:U'=v+1:=by rw[c0]at hU;omega
 rw[e];refine⟨[(1,.data 1 ((wds (n+1) (v+1)).map u6) false true),nnQ],?_⟩;simp[aP,nH,toD,aH,lst,bc];exact Z0 (by simp[bc])
theorem aao{U m:Nat}(hU:U<W6^m)(hj:j<m)(hw:w<W6):U-U/W6^j%W6*W6^j+w*W6^j<W6^m:=by
 obtain⟨d,rfl⟩:∃d,m=j+1+d:=⟨m-j-1,aa⟩;have hp:=Yq (n:=j) jd;have h1:=Zb U (W6^j);have h2:=Zk U hp;have h3:=Zb (U/W6^j) W6
 have h4:U/W6^j/W6<W6^d:=by
  rw[Ze,<-Nat.pow_succ];exact Y8 (by rw[<-Zr];exact hU)
 rw[Zr,Nat.pow_succ];generalize W6^j=P at *;generalize W6^d=E at *;generalize U/P/W6=q at *;generalize U/P%W6=o at *;generalize U%P=r at *;have e1:U=P*(W6*q)+o*P+r:=by rw[<-h1,<-h3,Nat.mul_add,Zw P o]
 have e2:P*(W6*q)+P*W6<=P*W6*E:=by
  have:=Zy (P*W6) (show q+1<=E from h4);rw[Nat.mul_add,Y0,Nat.mul_assoc]at this;exact this
 have e3:w*P+P<=P*W6:=by
  have:=Zy P (show w+1<=W6 from hw);rw[Nat.mul_add,Y0,Zw P w]at this;exact this
 omega
theorem ZG(A:kY){n v i x N S0:Nat}(hN:N=2*n+1)(hNb:n<100000000)(hi:i<n)(hx:x<W6)(K:KL)(h0:Hp)(hh:h0.length=1):∀(r k U c:Nat),k+r=n->c<W6->U<W6^(i+n)->U+c*W6^(i+k)=S0+x*(v%W6^k)*W6^i ->
  (∀U' c',c'<W6->U'<W6^(i+n)->U'+c'*W6^(i+n)=S0+x*(v%W6^n)*W6^i->K (.exit 2) [UN c'] (eH (wds N U'))) ->
  lp (fY (CX Y) (.ref 0 1 0 N N N) (I i) (UN x) (lst u6 (wds n v)) (I n)) [] h0 [UN c,I k] (eH (wds N U)) K
 | 0,k,U,c,hk,hc,hU,hE,hK=>by
  have e:k=n:=aa;subst e;refine ai ?_;simp[fY];exact hK U c hc hU hE
 | r+1,k,U,c,hk,hc,hU,hE,hK=>by
  obtain⟨y,hy⟩:=nmQ (v/W6^k%W6);have hyl:y<W6:=by rw[hy];exact Zk _ jd
  obtain⟨o,ho⟩:=nmQ (U/W6^(i+k)%W6);have hol:o<W6:=by rw[ho];exact Zk _ jd
  have mu:=SE (a:=x) (b:=y) (by rw[<-mV];exact hx) (by rw[<-mV];exact hyl);rw[<-mV]at mu;obtain⟨hi',hhi⟩:∃h,h=x*y/W6:=⟨_,rfl⟩;obtain⟨lo',hlo⟩:∃l,l=x*y%W6:=⟨_,rfl⟩;have hm:W6*hi'+lo'=x*y:=by rw[hhi,hlo];exact Zb _ _
  have hlol:lo'<W6:=by rw[hlo];exact Zk _ jd
  rw[<-hhi,<-hlo]at mu;have a1:=A lo' o 0 (by rw[<-mV];exact hlol) (by rw[<-mV];exact hol) ae;rw[Nat.add_zero]at a1;obtain⟨w1,hw1⟩:∃w,w=(lo'+o)%W6:=⟨_,rfl⟩;obtain⟨c1,hc1⟩:∃w,w=(lo'+o)/W6:=⟨_,rfl⟩;have hm1:W6*c1+w1=lo'+o:=by rw[hc1,hw1];exact Zb _ _
  have hw1l:w1<W6:=by rw[hw1];exact Zk _ jd
  rw[<-hw1,<-hc1]at a1;have a2:=A w1 c 0 (by rw[<-mV];exact hw1l) (by rw[<-mV];exact hc) ae;rw[Nat.add_zero]at a2;obtain⟨w,hw⟩:∃u,u=(w1+c)%W6:=⟨_,rfl⟩;obtain⟨c2,hc2⟩:∃u,u=(w1+c)/W6:=⟨_,rfl⟩;have hm2:W6*c2+w=w1+c:=by rw[hc2,hw];exact Zb _ _
  have hwl:w<W6:=by rw[hw];exact Zk _ jd
  rw[<-hw,<-hc2]at a2
  -- the sum of all
  have tot:W6*(hi'+c1+c2)+w=x*y+o+c:=by rw[Nat.mul_add,Nat.mul_add];omega
  have hcl:hi'+c1+c2<W6:=by
   have h1:x*y<=(W6-1)*(W6-1):=Zg aa aa;have h2:(W6-1)*(W6-1)+2*(W6-1)<W6*W6:=ae;have h3:W6*(hi'+c1+c2)<W6*W6:=aa;exact Xg h3
  have b1:=qF (a:=hi') (b:=c1) (by rw[<-mV];omega);have b2:=qF (a:=hi'+c1) (b:=c2) (by rw[<-mV];omega);obtain⟨T,hT⟩:=nmQ (hi'+c1+c2);rw[<-hT]at tot hcl b2;have hp:=Yq (n:=i+k) jd
  have hle:o*W6^(i+k)<=U:=by
   rw[ho];exact Zs (Zx _ (Nat.mod_le _ _)) (X0 _ _)
  have hU':=aao (w:=w) hU (show i+k<i+n by omega) hwl;rw[<-ho]at hU'
  have ih:=ZG A hN hNb hi hx K h0 hh r (k+1) (U-o*W6^(i+k)+w*W6^(i+k)) T aa hcl hU' (by
   have e1:T*W6^(i+(k+1))+w*W6^(i+k)=(x*y+o+c)*W6^(i+k):=by
    rw[<-tot,Nat.add_mul,<-Nat.add_assoc i k 1,Nat.pow_succ];congr 1;ac_rfl
   have e2:v%W6^(k+1)=v%W6^k+W6^k*y:=by rw[hy];exact Nat.mod_pow_succ
   have e3:x*(v%W6^(k+1))*W6^i=x*(v%W6^k)*W6^i+x*y*W6^(i+k):=by
    rw[e2,Nat.mul_add,Nat.add_mul,Zr];congr 1;ac_rfl
   rw[Nat.add_mul,Nat.add_mul]at e1;generalize x*(v%W6^k)*W6^i=A1 at *;generalize x*(v%W6^(k+1))*W6^i=A2 at *;omega) hK
  have hny:nth 0 (wds n v) k=y:=by rw[oO aa,hy]
  have hno:nth 0 (wds N U) (i+k)=o:=by rw[oO aa,ho]
  have hs:(wds N U).set (i+k) w=wds N (U-o*W6^(i+k)+w*W6^(i+k)):=by rw[xi aa hwl,ho]
  have j1:=fun H=>(tE (l:=wds n v) (i:=k) (by rw[bc];omega) H).1
  have j2:=fun H=>(tE (l:=wds n v) (i:=k) (by rw[bc];omega) H).2
  simp only[hny]at j2;have i1:=eI (bc N U) (i:=i+k) aa;have i2:=eL (bc N U) (i:=i+k) aa;have i3:=eS (x:=w) (bc N U) (i:=i+k) aa;rw[hno]at i2;rw[hs]at i3;have ek:((i+k:Nat):Int)=(i:Int)+k:=af;rw[ek]at i1;have i1':ixX (jN (eH (wds N U)) 0 1) 1 0 1 0 N N ((i:Int)+k)=some (.ptr 0 1 (i+k) N):=i1;have gk:(k:Int)<n:=aa
  have e2:((k+1:Nat):Int)=(k:Int)+1:=af;rw[e2]at ih;have hre:∀o,bm [] 0 h0 (eH o)=eH o:=fun o=>iV 0 h0 _ (by rw[hh];rfl)
  refine ai ?_;simp(disch:=try exact ac)[fY,gk,j1,j2];refine cd mu ?_;simp(disch:=try exact ac)[i1,i1',i2];refine cd a1 ?_;simp(disch:=try exact ac)[b1];refine cd a2 ?_;have hTi:(hi':Int)+c1+c2=(T:Int):=aa;have hTl:T<18446744073709551616:=by rw[<-mV];exact hcl
  simp(disch:=try exact ac)[hTi,i1,i1',i3,hre];exact ih
theorem ZH(A:kY){n v N:Nat}(hN:N=2*n+1)(hNb:n<100000000)(hv:v<W6^n)(K:KL)(h0:Hp)(hh:h0.length=1):∀(r i:Nat),i+r=n->K (.exit 0) [] (eH (wds N (v*v))) ->
  lp (af0 (CX Y) (lst u6 (wds n v)) (.ref 0 1 0 N N N) (lst u6 (wds n v)) (I n)) [] h0 [I i] (eH (wds N (v%W6^i*v))) K
 | 0,i,hi,hK=>by
  have e:i=n:=aa;subst e;rw[Zj hv];refine ai ?_;simp[af0];exact hK
 | r+1,i,hi,hK=>by
  have ih:=ZH A hN hNb hv K h0 hh r (i+1) aa hK;obtain⟨x,hx⟩:=nmQ (v/W6^i%W6);have hxl:x<W6:=by rw[hx];exact Zk _ jd
  have hnx:nth 0 (wds n v) i=x:=by rw[oO aa,hx]
  have j1:=fun H=>(tE (l:=wds n v) (i:=i) (by rw[bc];omega) H).1
  have j2:=fun H=>(tE (l:=wds n v) (i:=i) (by rw[bc];omega) H).2
  simp only[hnx]at j2;have gi:(i:Int)<n:=aa;have e2:((i+1:Nat):Int)=(i:Int)+1:=af;rw[e2]at ih
  have hU0:v%W6^i*v<W6^(i+n):=by
   rw[Zr];have h1:=Zk v (Yq (n:=i) jd);exact Zu (Zx v (Xs h1)) (Xk hv (Yq jd))
  have hre:∀o,bm [] 0 h0 (eH o)=eH o:=fun o=>iV 0 h0 _ (by rw[hh];rfl)
  refine ai ?_;simp(disch:=try exact ac)[af0,gi,j1,j2,bc];refine lo (ZG A (S0:=v%W6^i*v) (v:=v) hN hNb (show i<n by omega) hxl _ _ rfl n 0 _ 0 aa jd hU0 (by simp[Nat.mod_one]) fun U c hc hU hE=>?_);rw[Zj hv]at hE
  have e3:v%W6^(i+1)*v=v%W6^i*v+x*v*W6^i:=by
   rw[Nat.mod_pow_succ,<-hx,Nat.add_mul];congr 1;ac_rfl
  have h0w:U/W6^(i+n)%W6=0:=by rw[Zh hU];rfl
  have hno:nth 0 (wds N U) (i+n)=0:=by rw[oO aa,h0w]
  have hs:(wds N U).set (i+n) c=wds N (v%W6^(i+1)*v):=by
   rw[xi aa hc,h0w,e3,<-hE,X5,Nat.sub_zero]
  have i1:=eI (bc N U) (i:=i+n) aa;have i2:=eL (bc N U) (i:=i+n) aa;have i3:=eS (x:=c) (bc N U) (i:=i+n) aa;rw[hno]at i2;rw[hs]at i3;have ek:((i+n:Nat):Int)=(i:Int)+n:=af;rw[ek]at i1;have b1:=qF (a:=0) (b:=c) (by rw[<-mV];omega);rw[Zn]at b1
  have i1':ixX (jN (eH (wds N U)) 0 1) 1 0 1 0 N N ((i:Int)+n)=some (.ptr 0 1 (i+n) N):=i1;simp(disch:=try exact ac)[bc,i1,i1',i2,b1,i3,hre];exact ih
theorem EL(A:kY)(hn:0<n)(hNb:n<100000000)(hv:v<W6^n):CP Y F.cQ [lst u6 (wds n v)] (lst u6 (wds (2*n+1) (v*v))):=by
 refine sK ?_;obtain⟨N,hN⟩:=nmQ (2*n+1);rw[<-hN];have l0:=fun K h=>ZH A hN hNb hv K (eH (wds N (v%W6^0*v))) rfl n 0 aa h
 have e1:(2:Int)*n+1=(N:Int):=aa
 have e0:List.replicate N (D.int IntKind.u64 0)=(wds N (v%W6^0*v)).map u6:=by
  rw[Nat.pow_zero,Nat.mod_one,X5];clear hN l0 e1
  induction N with
  |zero=>rfl
  |succ N ih=>rw[List.replicate_succ,ih];simp[wds,u6]
 simp(disch:=try exact ac)[cQ,bc,e1];rw[e0];refine lo (l0 _ ?_);refine⟨[(1,.data 1 ((wds N (v*v)).map u6) true true)],?_⟩;simp[aP,eH,toD,aH,lst,bc];exact Z0 (by simp[bc])
end Go.Vm
namespace Go.Big
def Af(P:Nat):Nat->Nat->Nat->Option (List Bool)
 |0,_,_=>some []
 | n+1,low,high=>
  if 2^(P+2)<=low∨2^(P+2)<=high then none
  else if 2^(P+1)<=low*low/2^P then
   (if 2^(P+1)<=high*high/2^P+1 then(Af P n (low*low/2^P/2) ((high*high/2^P+1)/2+1)).map (true :: ·)else none)
  else if 2^(P+1)<=high*high/2^P+1 then none
  else(Af P n (low*low/2^P) (high*high/2^P+1)).map (false :: ·)
def oN:Nat->List Bool->Nat
 |a,[]=>a
 |a,b::l=>oN (a*2+(if b then 1 else 0)) l
def adq(p n:Nat):Bool:=match Af (n+64) n (p*2^(n+64-(bln p-1))) (p*2^(n+64-(bln p-1)))with
 |some l=>decide (wX p n 160=some (oN (bln p-1) l))
 |none=>false
end Go.Big
namespace Go.Vm
open Go.Big
variable{p n e k i:Nat}{o l:LnQ}
theorem WQ:∀p:Fin 98,bw p.val=true->p.val≠2->(List.range 65).all (adq p.val)=true:=b9
theorem Ir:∀n:Fin 65,wX 2 n.val 160=some (2^n.val):=b9
theorem TI(hp:bw (p:Int)=true)(h2:p≠2)(hn:n<=64):
  ∃l,Af (n+64) n (p*2^(n+64-(bln p-1))) (p*2^(n+64-(bln p-1)))=some l∧wX p n 160=some (oN (bln p-1) l):=by
 have h:=Zq.1 (WQ ⟨p,by have:=nX hp;omega⟩ hp h2) n (Xm.2 aa);unfold adq at h;split at h
 .rename_i l hl;exact⟨l,hl,by simpa using h⟩
 .cases h
open Go Go.Am
theorem Js:∀{n k v:Nat},k<=n->(wds n v).take k=wds k v
 |_,0,_,_=>by simp[wds]
 |n+1,k+1,v,h=>by simp only[wds,Wi,Js (n:=n) (k:=k) (v:=v/W6) aa]
def mnH(w lo hi P:Nat)(s1 s2:Nat×Bk):Hp:=[(1,.vars [lst u6 (wds w lo),lst u6 (wds w hi),I P]),s1,s2]
theorem aag(h:e<=64*n):2^e<=W6^n:=by rw[<-Jg];exact Z6 ae h
theorem QQ{v:Nat}(h0:0<k)(h:k<=n)(H:Hp):slV H 1 (lst u6 (wds n v)) none (some (I k))=some (lst u6 (wds k v)):=by rw[NL u6 (wds n v) (by rw[bc];omega) rfl (by rw[bc];exact h),Js h]
theorem SF{a b:Int}(h:b<=a):mxI false [I a,I b]=some (I b):=by simp[mxI,mx2];omega
theorem WT(A:kY){P w lo hi:Nat}(hw:w=P/64+2)(hP:P<100000)(h1:lo<2^(P+2))(h2:hi<2^(P+2)){a:Bool}(ha:decide (2^(P+1)<=lo*lo/2^P)=a)(hb:decide (2^(P+1)<=hi*hi/2^P+1)=a)
  {s1 s2:Nat×Bk} (hu1:aT 3 s1.2=true) (hu2:aT 3 s2.2=true) :
  CI Y F.dk [.ptr 0 1 0 3] (mnH w lo hi P s1 s2) (.tup [B a,B true])
   (mnH w (if a then lo*lo/2^P/2 else lo*lo/2^P) (if a then(hi*hi/2^P+1)/2+1 else hi*hi/2^P+1) P s1 s2):=by
 refine tL ?_;have hp:=Zp P;have e4:(2:Nat)^(P+2)=4*2^P:=by rw[Zr];omega
 have sqb:∀x,x<2^(P+2)->x*x/2^P<16*2^P:=fun x hx=>by
  refine Y8 ?_;rw[e4]at hx;have:=Y6 hx hx;have e:4*2^P*(4*2^P)=2^P*(16*2^P):=by generalize 2^P=T;rw[show 16*T=4*(4*T) by omega];ac_rfl
  omega
 have Wb:32*2^P<=W6^w:=by
  have:2^(P+5)<=W6^w:=aag aa;rw[Zr]at this;omega
 have W0:W6^w<=W6^(w+3):=Z6 jd aa;have W1:W6^w<=W6^(w+4):=Z6 jd aa;have Wsq:W6^w*W6^w<=W6^(2*w+1):=by rw[<-Zr];exact Z6 jd aa
 have lw:lo<W6^w:=aa;have hw':hi<W6^w:=aa;have el:2*w+1-P/64=w+3:=aa;have q1:=EL A (n:=w) (v:=lo) aa aa lw;have q2:=uo (n:=2*w+1) (v:=lo*lo) (b:=P) (Z3 (Y6 lw lw) Wsq) aa aa aa;rw[el]at q2;have q3:=EL A (n:=w) (v:=hi) aa aa hw'
 have q4:=uo (n:=2*w+1) (v:=hi*hi) (b:=P) (Z3 (Y6 hw' hw') Wsq) aa aa aa;rw[el]at q4;have b1:=sqb lo h1;have b2:=sqb hi h2;obtain⟨x,hx⟩:=nmQ (lo*lo/2^P);obtain⟨y,hy⟩:=nmQ (hi*hi/2^P);rw[<-hx]at q2 b1 ha ⊢;rw[<-hy]at q4 b2 hb ⊢;have q5:=Lb A (n:=w+3) (v:=y) aa aa aa
 have q6:=He (n:=w+3) (v:=x) (b:=P+1) aa aa aa aa;have q7:=He (n:=w+4) (v:=y+1) (b:=P+1) aa aa aa aa;rw[ha]at q6;rw[hb]at q7;have q8:=uo (n:=w+3) (v:=x) (b:=1) aa aa aa aa;have q9:=uo (n:=w+4) (v:=y+1) (b:=1) aa aa aa aa
 rw[show w+3-1/64=w+3 by omega,Wo]at q8;rw[show w+4-1/64=w+4 by omega,Wo]at q9;have q10:=Lb A (n:=w+4) (v:=(y+1)/2) aa aa aa;have eP:((P+1:Nat):Int)=(P:Int)+1:=af;rw[eP]at q6 q7;have eQ:(P:Int)/64+2=(w:Int):=aa
 have fin:∀(l g:Nat),pK 3 (.tup [B a,B true]) (mnH w l g P s1 s2) (.tup [B a,B true]) (mnH w l g P s1 s2):=fun l g=>⟨by simp[mnH],by
  simp only[mnH,List.all_cons,Wl,We,hu1,hu2];rfl,.inl ⟨rfl,rfl⟩⟩
 have st0:∀a b x:LnQ,st [(1,.vars [lst u6 a,lst u6 b,I P]),s1,s2] 1 (.ptr 0 1 0 3) (lst u6 x)=some [(1,.vars [lst u6 x,lst u6 b,I P]),s1,s2]:=fun _ _ _=>rfl
 have st1:∀a b x:LnQ,st [(1,.vars [lst u6 a,lst u6 b,I P]),s1,s2] 1 (.ptr 0 1 1 3) (lst u6 x)=some [(1,.vars [lst u6 a,lst u6 x,I P]),s1,s2]:=fun _ _ _=>rfl
 simp[dk,mnH];refine cd q1 ?_;simp;refine cd q2 ?_;simp;refine cd q3 ?_;simp;refine cd q4 ?_;simp;refine cd q5 ?_;simp(disch:=try exact ac)[st0,st1];refine cd q6 ?_;simp(disch:=try exact ac);refine cd q7 ?_;cases a with
 | false=>
  simp;refine aE ?_;simp(disch:=try exact ac)[eQ,bc,SF,QQ,st0,st1];exact fin _ _
 | true=>
  simp;refine aE ?_;simp;refine cd q8 ?_;simp;refine cd q9 ?_;simp;refine cd q10 ?_;simp(disch:=try exact ac)[eQ,bc,SF,QQ,st0,st1];exact fin _ _
def mnD(b:Bool):D:=.bool b
def mnA:Acc:=⟨2,0,1,.none⟩
theorem OO(A:kY){P w n:Nat}(hw:w=P/64+2)(hP:P<100000)(hn:n<100000)(x0 y0:Nat×Bk)(K:KL):∀(m k lo hi:Nat)(a l:List Bool),k+m=n->a.length=k->Af P m lo hi=some l ->
  (∀lo hi,K (.exit 0) [mnA.v n ((a++l).map mnD)] (mnH w lo hi P nnQ (mnA.b n ((a++l).map mnD)))) ->
  lp (k9 (CX Y) (.ptr 0 1 0 3) (I n)) [1] [x0,nnQ,y0] [mnA.v k (a.map mnD),I k] (mnH w lo hi P nnQ (mnA.b k (a.map mnD))) K
 | 0,k,lo,hi,a,l,hk,hal,he,hK=>by
  have e:k=n:=aa;subst e;have:l=[]:=by simpa[Af]using he.symm
  subst this;rw[Yj]at hK;refine ai ?_;simp[k9];exact hK lo hi
 | m+1,k,lo,hi,a,l,hk,hal,he,hK=>by
  simp only[Af]at he;by_cases hg:2^(P+2)<=lo∨2^(P+2)<=hi
  .rw[if_pos hg]at he;cases he
  rw[if_neg hg]at he
  -- the digit
  obtain ⟨b,l2,hb1,hb2,rfl,he2⟩:∃(b:Bool)(l2:List Bool),decide (2^(P+1)<=lo*lo/2^P)=b∧decide (2^(P+1)<=hi*hi/2^P+1)=b∧l=b::l2 ∧
    Af P m (if b then lo*lo/2^P/2 else lo*lo/2^P) (if b then(hi*hi/2^P+1)/2+1 else hi*hi/2^P+1)=some l2:=by
   by_cases c1:2^(P+1)<=lo*lo/2^P
   .rw[if_pos c1]at he;by_cases c2:2^(P+1)<=hi*hi/2^P+1
    .rw[if_pos c2]at he;obtain⟨l2,e1,e2⟩:=Z2.1 he;exact⟨true,l2,by simpa using c1,by simpa using c2,e2.symm,e1⟩
    .rw[if_neg c2]at he;cases he
   .rw[if_neg c1]at he;by_cases c2:2^(P+1)<=hi*hi/2^P+1
    .rw[if_pos c2]at he;cases he
    .rw[if_neg c2]at he;obtain⟨l2,e1,e2⟩:=Z2.1 he;exact⟨false,l2,by simpa using c1,by simpa using c2,e2.symm,e1⟩
  have bt:=WT A hw hP (Nat.lt_of_not_le fun h=>hg (.inl h)) (Nat.lt_of_not_le fun h=>hg (.inr h)) hb1 hb2 (s1:=nnQ) (s2:=mnA.b k (a.map mnD)) rfl (by cases k<;>rfl);have ih:=OO A hw hP hn x0 y0 K m (k+1) _ _ (a++[b]) l2 aa (by simp[hal]) he2 (by simpa using hK);generalize(if b then lo*lo/2^P/2 else lo*lo/2^P)=lo2 at *
  generalize(if b then(hi*hi/2^P+1)/2+1 else hi*hi/2^P+1)=hi2 at *;have gk:(k:Int)<n:=aa;have e2:((k+1:Nat):Int)=(k:Int)+1:=af;rw[e2]at ih;have li:∀(c:Bool) H,fj 1 [D.bool false] [(0,B c)] H=some ([mnD c],H):=fun _ _=>rfl
  refine ai ?_;simp(disch:=try exact ac)[k9,gk];refine dX (iG bt ?_ (by intro _ _ _ _ _ h;cases h));simp(disch:=try exact ac)[li];refine rI mnA (L:=k) (k:=1) (cells:=a.map mnD) (cs:=[mnD b]) aa rfl (by simp[hal,mnA]) rfl rfl (fun t e=>by cases e) aa ae ?_;simp(disch:=try exact ac)
  rw[show a.map mnD++[mnD b]=(a++[b]).map mnD by simp];have e5:mnA.v (k+1) ((a++[b]).map mnD)=.ref mnA.s (mnA.e+1) 0 (k+1) (k+1) (a.length+1):=by simp[Acc.v]
  rw[e5]at ih;exact⟨rfl,ih⟩
def b3:Hp:=[nnQ,nnQ,nnQ]
def bgH(o:LnQ):Hp:=b3++[(1,.data 1 (o.map u6) true false),nnQ,nnQ]
theorem bgI(hn:o.length=n)(hi:i<n):ixV (bgH o) 1 (.ref 3 1 0 n n n) (.d (.int .i64 (i:Int)))=some (.ptr 3 1 i n):=ixB rfl hn hi _
theorem bgL(hn:o.length=n)(hi:i<n):ld1 (bgH o) (.ptr 3 1 i n)=some (UN (nth 0 o i)):=ldB 0 (f:=u6) rfl hn hi
theorem bgS{x:Nat}(hn:o.length=n)(hi:i<n):st (bgH o) 1 (.ptr 3 1 i n) (UN x)=some (bgH (o.set i x)):=stB (f:=u6) rfl hn hi (x:=x) rfl
theorem Jr:∀w,List.replicate w (D.int IntKind.u64 0)=(wds w 0).map u6
 |0=>rfl
 |w+1=>by rw[List.replicate_succ,Jr w];simp[wds,u6]
theorem LE{h:Hp}(hu:(h.all fun x=>aT h.length x.2)=true){s:Nat}{ex fr:Bool}(hs:h[s]?=some (e,.data 1 (l.map u6) ex fr))(hl:l.length=n)(h0:0<n)(hb:n<1000000000):
  CI Y F.aF [.ref s e 0 n n n] h (.new 1 (l.map u6) false n n) h:=by
 refine ip ?_;have hlt:=(List.getElem?_eq_some_iff.1 hs).1;have hs2:∀x:Hp,(h++x)[s]?=some (e,.data 1 (l.map u6) ex fr):=fun x=>by rw[List.getElem?_append_left hlt];exact hs
 have hg:∀x:Hp,aH (h++x) s e=.data 1 (l.map u6) ex fr:=fun x=>by simp[aH,hs2]
 have hc:∀x:Hp,cellsOf (h++x) (.ref s e 0 n n n)=some (n,l.map u6):=fun x=>by
  simp[cellsOf,hg,hl]
  try exact Z0 (by simp[hl])
 have nl:∀(x:Hp)(k:V->Prop)(u:PU k),rn (qK (h++x) .eql (.ref s e 0 n n n) (.d nPQ)) k u=k (.d (.bool false)):=fun x k u=>by
  have hb:biN (h++x) .eql (.ref s e 0 n n n) (.d nPQ)=some (.d (.bool false)):=by simp[biN,Kr,hg,hl]
  show qK (h++x) .eql (.ref s e 0 n n n) (.d nPQ) k=_
  unfold qK;rw[hb]
 simp[aF,nl]
 have hli:fj 0 [D.int IntKind.u64 0] [] (h++[(0,Bk.none),(0,Bk.none)])=some ([],h++[(0,Bk.none),(0,Bk.none)]):=by
  simp[fj,fS,hO]
 rw[hli];simp
 have ea:∀(x:Hp)(q:kkQ)(v:V),apV false (h.length+1) 1 8 v (.ref s e 0 n n n) (h++x) q=apV false (h.length+1) 1 8 v (.d (.sl n (l.map u6))) (h++x) q:=fun x q v=>by
  unfold apV;simp only[hc];rfl
 refine Eq.mpr (ea _ _ _) ?_
 show rh (apV false (h.length+1) 1 8 (.ref (h.length+0) 1 0 0 0 0) (.d (.sl n (l.map u6))) (h++[(1,.data 1 [] true false),nnQ])) _ PU.mk
 refine uC (z:=[]) ae h0 (by simp[hl]) aa ?_;refine⟨af,?_,.inr (.inr (.inl ⟨h.length+1,1,n,n,1,l.map u6,false,af,aa,by simp[aH],rfl⟩))⟩;simp only[Xz,hu,Y9]
 try simp[aT]
theorem Qq{P w:Nat}(hw:w=P/64+2)(hP:P<100000)(hk:k<=P)(hp:p<128):
  CI Y F.jb [I p,I k,I P] b3 (.tup [.new 1 [.sl w ((wds w (p*2^(P-k))).map u6),.sl w ((wds w (p*2^(P-k))).map u6),.int .i64 P] true 0 0]) b3:=by
 refine Ac ?_;obtain⟨t,ht⟩:=nmQ (P-k);obtain⟨a,ha⟩:=nmQ (t/64);obtain⟨r,hr⟩:=nmQ (t%64);rw[<-ht];have e1:(P:Int)/64+2=(w:Int):=aa;have e2:(P:Int)-(k:Int)=(t:Int):=aa;have e3:(t:Int)/64=(a:Int):=aa;have e4:(t:Int)%64=(r:Int):=aa;obtain⟨x,hx⟩:=nmQ (p*2^r%W6);obtain⟨y,hy⟩:=nmQ (p*2^r/W6)
 have hxy:W6*y+x=p*2^r:=by rw[hx,hy];exact Zb _ _
 have hxl:x<W6:=by rw[hx];exact Zk _ jd
 have e64:W6=2^r*2^(64-r):=by rw[<-Zr];show 2^64=_;congr 1;omega
 have hy2:y=p/2^(64-r):=by rw[hy,e64,Zw p,Nat.mul_div_mul_left _ _ (Zp r)]
 have hyl:y<W6:=by rw[hy2];exact Zu (Y5 _ _) (W4 hp ae)
 have hpl:p<18446744073709551616:=aa;have hxl':x<18446744073709551616:=by rw[<-mV];exact hxl
 have hyl':y<18446744073709551616:=by rw[<-mV];exact hyl
 have hv:p*2^t=x*W6^a+y*W6^(a+1):=by
  have:t=64*a+r:=aa;rw[this,Zr,Jg,Nat.pow_succ,show p*(W6^a*2^r)=W6^a*(p*2^r) by ac_rfl,<-hxy,Nat.mul_add];rw[Yf];congr 1<;>ac_rfl
 have n0:∀i,i<w->nth 0 (wds w 0) i=0:=fun i hi=>by rw[oO hi,Nat.zero_div];rfl
 have s0:(wds w 0).set a x=wds w (x*W6^a):=by rw[xi aa hxl];simp
 have i1:=bgI (bc w 0) (i:=a) aa;have i2:=bgL (bc w 0) (i:=a) aa;have i3:=bgS (x:=x) (bc w 0) (i:=a) aa;rw[n0 a aa]at i2;rw[s0]at i3
 have sl:biI .shl (UN p) (I r)=some (UN x):=by
  rw[NO aa aa,xh,hx,mV];simp
 have o1:biI .or (UN 0) (UN x)=some (UN x):=by rw[aaA ae hxl',Nat.zero_or]
 have hb:∀o:LnQ,([nnQ,nnQ,nnQ,(1,.data 1 (o.map u6) true false),nnQ,nnQ]:Hp)=bgH o:=fun _=>rfl
 have i1':ixX (Bk.data 1 ((wds w 0).map u6) true false) 1 3 1 0 w w (a:Int)=some (.ptr 3 1 a w):=i1
 -- the rest:a copy,the record
 obtain⟨l,hl⟩:=nmQ (wds w (p*2^t));have hll:l.length=w:=by rw[hl,bc]
 rw[<-hl];have cl:=LE (h:=bgH l) rfl (s:=3) (e:=1) rfl hll aa aa;have e3':(t:Int).tdiv 64=(a:Int):=by rw[Z1 aa];omega
 have fin:pK 3 (.tup [.new 1 [.sl w (l.map u6),.sl w (l.map u6),.int .i64 P] true 0 0]) b3 (.ptr 5 1 0 3)
   (b3++[(1,.data 1 (l.map u6) true false),(1,.data 1 (l.map u6) false false),(1,.vars [.ref 3 1 0 w w w,.ref 4 1 0 w w w,I P])]):=by
  refine ⟨rfl,rfl,.inr (.inr (.inr (.inr (.inr ⟨5,1,[.ref 3 1 0 w w w,.ref 4 1 0 w w w,I P],[.sl w (l.map u6),.sl w (l.map u6),.int .i64 P],
   b3++[(1,.data 1 (l.map u6) true true),(1,.data 1 (l.map u6) false true),(1,.vars [.ref 3 1 0 w w w,.ref 4 1 0 w w w,I P])],ae,rfl,?_,rfl,rfl,.inl ⟨rfl,rfl⟩⟩))))⟩
  have ht:(l.map u6).take w=l.map u6:=Z0 (by simp[hll]);simp[hO,toD,aH,b3,hll,ht,cK]
 simp(disch:=try exact ac)[jb,b3,e1];rw[Jr,hb];by_cases r0:r=0
 .subst r0;have hx0:p=x:=by rw[hx];simp;exact(Zj (by rw[mV];exact hpl)).symm
  have hy0:y=0:=by rw[hy2];exact Zh (W4 hp ae)
  have hl0:wds w (x*W6^a)=l:=by rw[hl,hv,hy0];simp
  have e4':(t:Int).tmod 64=((0:Nat):Int):=by rw[Z4 aa];omega
  subst hx0;rw[hl0]at i3;simp(disch:=try exact ac)[e2,e3,e3',e4,e4',i1,i1',i2,sl,o1,i3];refine dy (l:=[]) (h:=bgH l) (fun q=>?_) ?_
  .simp(disch:=try exact ac)
  simp(disch:=try exact ac);refine dX (eU (s:=4) (e:=0) (b:=.none) cl rfl ?_);simp(disch:=try exact ac)[bgH,b3,hll];exact fin
 .have r1:(0:Int)<r:=aa;have e4':(t:Int).tmod 64=(r:Int):=by rw[Z4 aa];omega
  have ha1:a+1<w:=aa;have wl:=bc w (x*W6^a)
  have n1:nth 0 (wds w (x*W6^a)) (a+1)=0:=by
   rw[oO ha1,Nat.pow_succ,Zw (W6^a),Nat.mul_div_mul_right _ _ (Yq jd),Zh hxl];rfl
  have s1:(wds w (x*W6^a)).set (a+1) y=l:=by
   rw[xi ha1 hyl,<-oO ha1,n1,hl,hv,X5,Nat.sub_zero]
  have j1:=bgI wl (i:=a+1) ha1;have j2:=bgL wl (i:=a+1) ha1;have j3:=bgS (x:=y) wl (i:=a+1) ha1;rw[n1]at j2;rw[s1]at j3;have ea:((a+1:Nat):Int)=(a:Int)+1:=af;rw[ea]at j1
  have sr:biI .shr (UN p) (I ((64:Int)-r))=some (UN y):=by
   rw[show(64:Int)-r=((64-r:Nat):Int) by omega,hy2];exact AG (by show 64-r<=64;omega)
  have o2:biI .or (UN 0) (UN y)=some (UN y):=by rw[aaA ae hyl',Nat.zero_or]
  simp(disch:=try exact ac)[e2,e3,e3',e4,e4',i1,i1',i2,sl,o1,i3,r1];refine dy (l:=[]) (h:=bgH l) (fun q=>?_) ?_
  .simp(disch:=try exact ac)[e2,e3,e3',e4,e4',j1,j2,sr,o2,j3,r1]
  simp(disch:=try exact ac);refine dX (eU (s:=4) (e:=0) (b:=.none) cl rfl ?_);simp(disch:=try exact ac)[bgH,b3,hll];exact fin
end Go.Vm
