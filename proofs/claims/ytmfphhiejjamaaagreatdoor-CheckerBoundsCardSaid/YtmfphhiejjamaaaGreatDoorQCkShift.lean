/- Lemmas. -/
import Derived.Test.YtmfphhiejjamaaaGreatDoorQDcY
set_option linter.unusedVariables false
set_option linter.unusedSimpArgs false
namespace Go.Vm
open Go Go.Am Go.Big
variable{a b c j x n i k v d w r:Nat}{o A l:LnQ}{s:LuQ}{z y:Int}{p:LiQ}
theorem Ay(ha:a<4294967296)(hb:b<4294967296):biI .or (.d (.int .u32 a)) (.d (.int .u32 b))=some (.d (.int .u32 ((a|||b:Nat):Int))):=by
 have h:a|||b<2^32:=Nat.or_lt_two_pow (n:=32) ha hb;have ea:(BitVec.ofInt 32 (a:Int)).toNat=a:=by simp[BitVec.toNat_ofInt];omega
 have eb:(BitVec.ofInt 32 (b:Int)).toNat=b:=by simp[BitVec.toNat_ofInt];omega
 have e:(BitVec.ofInt 32 (a:Int)|||BitVec.ofInt 32 (b:Int)).toNat=a|||b:=by rw[BitVec.toNat_or,ea,eb]
 show mr (some (Value.int .u32 (IntKind.wrap .u32 ((BitVec.ofInt 32 (a:Int)|||BitVec.ofInt 32 (b:Int)).toNat:Int))))=_
 rw[e,adf aa aa];rfl
theorem w7{t:Nat}(h:c<2^j):c|||(2^j*t)=c+2^j*t:=by rw[Nat.or_comm,<-Nat.two_pow_add_eq_or_of_lt h,Xd]
theorem Cp(h:x<W):x<4294967296:=h
def shH(o:LnQ):Hp:=[(1,.data 1 (o.map u32) false false),nnQ]
@[simp]theorem agP(o:LnQ):List.length (shH o)=2:=id rfl
theorem shI(hn:o.length=n)(hi:i<n):ixV (shH o) 1 (.ref 0 1 0 n n n) (.d (.int .i64 (i:Int)))=some (.ptr 0 1 i n):=ixB rfl hn hi _
theorem shL(hn:o.length=n)(hi:i<n):ld1 (shH o) (.ptr 0 1 i n)=some (.d (.int .u32 ((nth 0 o i:Nat):Int))):=ldB 0 (f:=u32) rfl hn hi
theorem shS(hn:o.length=n)(hi:i<n):st (shH o) 1 (.ptr 0 1 i n) (.d (.int .u32 (x:Int)))=some (shH (o.set i x)):=stB (f:=u32) rfl hn hi (x:=x) rfl
theorem uQ{L:LnQ}(hL:aH W L)(hLl:L.length<1000000000000){w r n:Nat}(hr:r<32)(k:KL)(h0:Hp)(hh:h0.length=2):∀(q p d:LnQ),L.drop w=p++q->d.length=p.length->(p++q).length=n ->
  k (.exit 0) [] (shH (d++nP r q)) ->
  lp (fi (CX Y) (lst u32 L) (I w) (.d (.int .u64 r)) (.ref 0 1 0 n n n) (I n)) [] h0 [I p.length] (shH (d++q)) k
 | []=>by
  intro p d hp hd hn hk;simp at hn;refine aj ?_;simp(disch:=try exact ag)[fi];simpa[nP]using hk
 | x::q=>by
  intro p d hp hd hn hk;have hsub:∀y∈p++x::q,y<W:=fun y hy=>hL y (List.mem_of_mem_drop (by rw[hp];exact hy))
  have hx:=Cp (hsub x af)
  have hwl:w+(p.length+(q.length+1))<=L.length:=by
   have:=congrArg List.length hp;simp at this;omega
  simp at hn;have hp2:=Zq r;have hdx:x/2^r<4294967296:=Zk (Yu _ _) hx;have bS:∀y z,(d++y::q).set p.length z=d++z::q:=fun y z=>by rw[<-hd,X3 _ _ (Z7 _)];simp
  have hnth:∀y,nth 0 (d++y::q) p.length=y:=fun y=>by rw[<-hd];simp
  have hdl:∀y,(d++y::q).length=n:=fun y=>by simp;omega
  have ih:=uQ hL hLl hr k h0 hh q (p++[x]) (d++[x/2^r+(2^(32-r)*q.headD 0)%4294967296]) (by simpa using hp) (by simp[hd]) bK (by simpa[nP]using hk);have hxr:(x:Int)/2^r=((x/2^r:Nat):Int):=af;obtain⟨z,hz⟩:=mnQ (x/2^r);rw[hz]at hxr hdx ih;have sI:=fun y=>shI (hdl y) (i:=p.length) aa
  have sL:=fun y=>shL (hdl y) (i:=p.length) aa
  have sS:=fun y z=>shS (x:=z) (hdl y) (i:=p.length) aa
  simp only[bS,hnth]at sL sS;refine aj ?_;by_cases hq:q=[]
  .subst hq;simp only[List.headD_nil,Nat.mul_zero,Nat.zero_mod,Nat.add_zero,nP]at ih hk;have hnn:¬((p.length:Int)+1<n):=by simp at hn;omega
   simp(disch:=try exact ag)[fi];refine aT ?_;simp(disch:=try exact ag)[sI,sL,sS,hxr,hnn];refine jD (l:=[]) (h:=shH (d++[z])) (fun q=>?_) ?_
   .simp(disch:=try exact ag)
   simp(disch:=try exact ag)[hh];simpa using ih
  ·obtain ⟨y,t,rfl⟩:∃y t,q=y::t:=by cases q with
    |nil=>exact absurd rfl hq
    |cons y t=>exact⟨y,t,rfl⟩
   have hnn:(p.length:Int)+1<n:=by simp at hn;omega
   have hy:=Cp (hsub y af);simp only[List.headD_cons]at ih;by_cases hr0:r=0
   .subst hr0;have e0:(2^(32-0)*y)%4294967296=0:=aa;rw[e0,Nat.add_zero]at ih;simp(disch:=try exact ag)[fi];refine aT ?_;have hzx:z=x:=by simpa using hz.symm
    subst hzx;simp(disch:=try exact ag)[sI,sL,sS,hxr,hnn];refine jD (l:=[]) (h:=shH (d++z::y::t)) (fun q=>?_) ?_
    .simp(disch:=try exact ag)
    simp(disch:=try exact ag)[hh];simpa using ih
   .obtain⟨m,hm⟩:=nmQ (w+p.length+1);have e1:((w:Int)+(p.length:Int)+1)=(m:Int):=aa
    have hLy:nth 0 L m=y:=by
     have hw:(L.drop w)[p.length+1]?=some y:=by rw[hp];simp
     rw[List.getElem?_drop]at hw;unfold nth;rw[Zy,hm,Nat.add_assoc,hw];rfl
    have eI:=kv u32 L (shH (d++z::y::t)) (k:=.i64) (i:=(m:Int)) aa (by simp at hwl;omega);have eL:=aid L (shH (d++z::y::t)) (j:=m) (by simp at hwl;omega);rw[hLy]at eL;obtain⟨s,hs⟩:=mnQ (32-r);have es:((32:Int)-(r:Int))=(s:Int):=aa
    have hsh:IntKind.wrap .u32 ((y:Int)*2^s)=((2^s*y%4294967296:Nat):Int):=by
     rw[wrap_u32',Zt];simp
    have hor:z|||(2^s*y%4294967296)=z+2^s*y%4294967296:=by
     have h32:2^s*2^r=4294967296:=by rw[<-hs,Zt];exact qH aa
     rw[<-h32,Xe];refine w7 ?_;rw[<-hz];exact Wl (by rw[Zt,h32];exact hx)
    rw[hs]at ih;obtain⟨v,hv⟩:=mnQ (2^s*y%4294967296);have hv32:v<4294967296:=by rw[<-hv];exact Y7 _ ae
    rw[hv]at hor ih hsh;have hob:=Ay hdx hv32;obtain⟨u,hu⟩:=mnQ (z+v);rw[hu]at ih hor;rw[hor]at hob;simp(disch:=try exact ag)[fi];refine aT ?_;simp(disch:=try exact ag)[sI,sL,sS,hxr,hnn];refine jD (l:=[]) (h:=shH (d++u::y::t)) (fun q=>?_) ?_
    .simp(disch:=try exact ag)[sI,sL,sS,e1,eI,eL,es,hsh,hob,show 0<r by omega]
    simp(disch:=try exact ag)[hh];simpa using ih
def slH(o:LnQ):Hp:=[nnQ,(1,.data 1 (o.map u32) true false)]
@[simp]theorem agJ(o:LnQ):List.length (slH o)=2:=id rfl
theorem slI(hn:o.length=n)(hi:i<n):ixV (slH o) 1 (.ref 1 1 0 n n n) (.d (.int .i64 (i:Int)))=some (.ptr 1 1 i n):=ixB rfl hn hi _
theorem slL(hn:o.length=n)(hi:i<n):ld1 (slH o) (.ptr 1 1 i n)=some (.d (.int .u32 ((nth 0 o i:Nat):Int))):=ldB 0 (f:=u32) rfl hn hi
theorem De(hn:o.length=n)(hi:i<n):st (slH o) 1 (.ptr 1 1 i n) (.d (.int .u32 (x:Int)))=some (slH (o.set i x)):=stB (f:=u32) rfl hn hi (x:=x) rfl
theorem u7{L:LnQ}(hL:aH W L)(hLl:L.length<1000000000000){w r N:Nat}(hw:w<1000000000000)(hr:r<32)(hN:N=w+L.length+1)(k:KL)(h0:Hp)(hh:h0.length=2):∀(q p d:LnQ)(c:Nat),L=p++q->d.length=p.length->aH W d->c<2^r->val W (d++[c])=val W p*2^r ->
  (∀o:LnQ,o.length=N->aH W o->val W o=W^w*(val W L*2^r)->k (.exit 2) [] (slH o)) ->
  lp (iq (CX Y) (I w) (.d (.int .u64 r)) (.ref 1 1 0 N N N) (lst u32 L) (I L.length)) [] h0 [I p.length] (slH (List.replicate w 0++(d++c::List.replicate q.length 0))) k
 | []=>by
  intro p d c hp hd hs hc hv hk;simp at hp;subst hp;refine aj ?_;simp(disch:=try exact ag)[iq]
  have h32:2^r<W:=by
   have:2^r<2^32:=Nat.pow_lt_pow_right ae hr;exact this
  refine hk _ bK ?_ ?_
  .refine aH.append (fun y hy=>by rw[List.mem_replicate]at hy;rw[hy.2];exact mi) (hs.snoc aa)
  .rw[val_append,oW,Zh,hv,Zp]
 | x::q=>by
  intro p d c hp hd hs hc hv hk;have hx:=Cp (hL x (by subst hp;simp));have hpl:p.length<L.length:=by subst hp;simp
  have hLx:nth 0 L p.length=x:=by subst hp;simp
  have hll:L.length=p.length+(q.length+1):=by subst hp;simp
  have h31:2^r<=2147483648:=by
   have:2^r<=2^31:=Z4 ae aa;exact this
  obtain⟨y,hy⟩:=mnQ (x*2^r);have hyle:y<=4294967295*2147483648:=by rw[<-hy];exact Zn aa h31
  have hyi:(x:Int)*2^r=(y:Int):=by rw[<-hy];simp
  obtain⟨m,hm⟩:=nmQ (w+p.length);have e1:((w:Int)+(p.length:Int))=(m:Int):=aa;obtain⟨m1,hm1⟩:=nmQ (m+1);have e2:((m:Int)+1)=(m1:Int):=aa;have h2r:=Zq r
  have hlow:y%4294967296=2^r*((x%2^(32-r))):=by
   rw[<-hy,<-qH (show r<=32 by omega),Zt x,Xe]
  have hor:=w7 (c:=c) (j:=r) (t:=x%2^(32-r)) hc;rw[<-hlow]at hor
  have hhi:y/4294967296<2^r:=by
   refine Wl ?_;rw[<-hy];exact Yb hx h2r
  have hcW:c<4294967296:=aa;have hyW:y%4294967296<4294967296:=Y7 _ ae;have hob:=Ay hcW hyW;have huW:c|||y%4294967296<4294967296:=Nat.or_lt_two_pow (n:=32) hcW hyW;rw[hor]at hob huW;obtain⟨u,hu⟩:=mnQ (c+y%4294967296);obtain⟨v,hv2⟩:=mnQ (y/4294967296);rw[hu]at hob huW;rw[hv2]at hhi
  have hyi2:(y:Int)%4294967296=((y%4294967296:Nat):Int):=aa;obtain⟨y0,hy0⟩:=mnQ (y%4294967296);have hyv:(y:Int)/4294967296=(v:Int):=aa;rw[hy0]at hob hyi2;have hwr1:IntKind.wrap .u32 (y:Int)=(y0:Int):=by rw[wrap_u32',hyi2]
  have hset1:(List.replicate w 0++(d++c::0::List.replicate q.length 0)).set m u=List.replicate w 0++(d++u::0::List.replicate q.length 0):=by
   rw[hm,X3 _ _ af,Zh,X3 _ _ aa];rw[show w+p.length-w-d.length=0 by omega];rfl
  have hset2:(List.replicate w 0++(d++u::0::List.replicate q.length 0)).set m1 v=List.replicate w 0++((d++[u])++v::List.replicate q.length 0):=by
   rw[hm1,hm,X3 _ _ bK,Zh,X3 _ _ aa];rw[show w+p.length+1-w-d.length=1 by omega];simp
  have hnth:nth 0 (List.replicate w 0++(d++c::0::List.replicate q.length 0)) m=c:=by
   unfold nth;rw[Zy,hm,List.getElem?_append_right af,Zh,List.getElem?_append_right aa];rw[show w+p.length-w-d.length=0 by omega];rfl
  have hl1:∀a b:Nat,(List.replicate w 0++(d++a::b::List.replicate q.length 0)).length=N:=fun a b=>by simp;omega
  have sI:=fun a b=>slI (hl1 a b) (i:=m) aa
  have sI2:=fun a b=>slI (hl1 a b) (i:=m1) aa
  have sL:=slL (hl1 c 0) (i:=m) aa;have sS:=De (x:=u) (hl1 c 0) (i:=m) aa;have sS2:=De (x:=v) (hl1 u 0) (i:=m1) aa;rw[hnth]at sL;rw[hset1]at sS;rw[hset2]at sS2
  have ih:=u7 hL hLl hw hr hN k h0 hh q (p++[x]) (d++[u]) v (by simpa using hp) (by simp[hd]) (hs.snoc huW) hhi (by
   have hW:W=4294967296:=rfl;rw[Kn,hd]at hv;rw[Kn,Kn,Kn,Zm,hd,List.length_singleton,Nat.pow_succ,Nat.add_mul,<-hv];have e:W^p.length*x*2^r=W^p.length*y:=by rw[Nat.mul_assoc,hy]
   rw[e,Nat.mul_assoc,Nat.add_assoc,<-Nat.mul_add,Nat.add_assoc,<-Nat.mul_add];congr 2;rw[<-hu,<-hv2,hW,hy0];omega) hk
  refine aj ?_;rw[List.length_cons,List.replicate_succ];simp(disch:=try exact ag)[iq,hLx,hyi,e1,e2,sI,sI2,sL,hwr1,hob,sS,sS2,hyv,hh];simpa using ih
theorem pm(ha:len a<100000000000)(hn:n<100000000000):CP Y F.aW [nat a,I n] (nat (a*2^n)):=by
 refine mg ?_;have hL:=cJ bc a;have hv:=iS bc a;unfold len at ha;unfold nat;generalize dig W a=L at *;obtain⟨w,hw⟩:=mnQ (n/32);obtain⟨r,hr⟩:=mnQ (n%32);have e1:(n:Int).tdiv 32=(w:Int):=by rw[Zs aa];omega
 have e2:(n:Int).tmod 32=(r:Int):=by rw[Zx aa];omega
 have hr32:r<32:=aa;obtain⟨N,hN⟩:=nmQ (w+L.length+1);have e3:((w:Int)+(L.length:Int)+1)=(N:Int):=aa;simp(disch:=try exact ag)[aW,e1,e2,e3]
 have e0:List.replicate N (D.int IntKind.u32 0)=(List.replicate w 0++([]++0::List.replicate L.length 0)).map u32:=by
  have:List.replicate w 0++([]++0::List.replicate L.length 0)=List.replicate N 0:=by
   rw[List.nil_append,<-List.replicate_succ,X2];congr 1;omega
  rw[this];simp[u32]
 rw[e0];refine lo (u7 hL aa (w:=w) aa hr32 hN _ _ rfl L [] [] 0 rfl rfl (fun x hx=>by simp at hx) (Zq r) (by simp[val]) fun o h1 h2 h3=>?_)
 have hval:val W o=a*2^n:=by
  have hn32:n=32*w+r:=aa;have hWw:W^w=2^(32*w):=by rw[Xc];rfl
  rw[h3,hv,hWw,hn32,Y6,Y1]
 have h50:(2:Nat)^50=1125899906842624:=ae;have ht:=nC h2 aa;rw[hval]at ht;simp(disch:=try exact ag)[slH];refine cdz (ds:=[lst u32 o]) (h':=[nnQ,(1,.data 1 (o.map u32) true true)]) ?_ ht ?_
 .simp[aS,bJ,toD,aw,h1,lst];rw[Z6 (by simp[h1])]
 .exact aav ..
theorem tT(ha:len a<100000000000)(h0:0<n)(hn:n<100000000000):CP Y F.aW [nat a,I (-(n:Int))] (nat (a/2^n)):=by
 refine mg ?_;have hL:=cJ bc a;have hv:=iS bc a;have hlt:a<W^(dig W a).length:=(pN bc).1 (Z7 _);unfold len at ha;unfold nat;generalize dig W a=L at *;obtain⟨w,hw⟩:=mnQ (n/32);obtain⟨r,hr⟩:=mnQ (n%32);have e1:(n:Int).tdiv 32=(w:Int):=by rw[Zs aa];omega
 have e2:(n:Int).tmod 32=(r:Int):=by rw[Zx aa];omega
 have hr32:r<32:=aa;have hWw:W^w=2^(32*w):=by rw[Xc];rfl
 have hn32:n=32*w+r:=aa;have hneg : -(n:Int)<0:=aa;by_cases hwl:L.length<=w
 .simp(disch:=try exact ag)[aW,e1,e2]
  have hz:a/2^n=0:=by
   refine Wr (Z1 hlt ?_);have h1:W^L.length<=W^w:=Z4 mi hwl;have h2:2^(32*w)<=2^n:=Z4 ae aa;omega
  rw[hz,j4];exact⟨_,by simp[lst];rfl⟩
 .have hdl:0<(L.drop w).length:=by simp;omega
  have hdn:(L.drop w).length<1000000000000:=by simp;omega
  simp(disch:=try exact ag)[aW,e1,e2];refine jC (fe (s:=0) (e:=0) (b:=.none) (wM (h:=[nnQ,nnQ]) (by simp[bW]) hdl hdn) rfl ?_);simp(disch:=try exact ag);have hps:=rH (r:=r) aa (l:=L.drop w) (hL.drop w);have hpv:=uW (r:=r) aa (L.drop w);have hpl:=uZ r (L.drop w)
  have hdv:val W (L.drop w)=a/W^w:=by
   have hap:=val_append (B:=W) (L.take w) (L.drop w);rw[Yi,hv,Zr,Yv aa]at hap;have htl:=jE mi (hL.take w);rw[Zr,Yv aa]at htl;rw[hap,Yr _ _ (Yj mi),Wr htl,Zp]
  have hval:val W (nP r (L.drop w))=a/2^n:=by
   have:val 4294967296 (nP r (L.drop w))=a/2^n:=by
    rw[hpv,show val 4294967296 (L.drop w)=a/W^w from hdv,Xg,hWw,hn32,Y6]
   exact this
  rw[<-List.map_drop];refine lo (uQ hL aa (w:=w) hr32 (n:=L.length-w) _ _ rfl (L.drop w) [] [] rfl rfl af ?_);rw[Yo]at hpl;generalize nP r (L.drop w)=o at *;have h50:(2:Nat)^50=1125899906842624:=ae;have ht:=nC hps aa;rw[show val W o=a/2^n from hval]at ht;simp(disch:=try exact ag)[shH]
  refine cdz (ds:=[lst u32 o]) (h':=[(1,.data 1 (o.map u32) false true),nnQ]) ?_ ht ?_
  .simp[aS,bJ,toD,aw,hpl,lst];rw[Z6 (by simp[hpl])]
  .exact aav ..
theorem nj(h:bln a<=32*k):len a<=k:=by refine jy ?_;have h1:=oF a;have h2:2^bln a<=2^(32*k):=Z4 ae h;rw[Xc]at h2;exact Z1 h1 h2
theorem qn(a:Nat):bln a<=32*len a:=by
 refine km ?_;have:a<W^(dig W a).length:=(pN bc).1 (Z7 _);have hW:W^(dig W a).length=2^(32*(dig W a).length):=by rw[Xc];rfl
 rw[hW]at this;exact this
theorem jL(h:a<=b):len a<=len b:=jy (Zk h ((pN bc).1 (Z7 _)))
theorem ma:nat 1=.d (.sl 1 [.int .u32 1]):=by rfl
theorem yi(b j:Nat):bln (b*2^j)<=bln b+j:=by simp[km,Y6,oF,Zq]
theorem wR(h:a<=b):bln a<=bln b:=km (Zk h (oF b))
def isN(v:V)(n:Nat):Prop:=v=nat n∨(n=0∧v=.d nPQ)
theorem j0{v:V}(h:isN v n)(hp:Hp):bJ hp v=some (nat n,hp):=by
 rcases h with rfl|⟨rfl,rfl⟩
 .simp
 rfl
theorem qd{b:Nat}(hb:0<b)(M:Nat)(hM:M<2000000000)(hbM:len b<=M)(k:KL):∀(j a q:Nat)(v:V),a<b*2^j->bln b+j<=32*M->isN v q->len (q+a/b)<1000000000->(∀v2,isN v2 (q+a/b)->k (.exit 0) [nat (a%b),v2] []) ->
  lp (fS (CX Y) (nat b)) [] [] [nat a,v,I ((j:Int)-1)] [] k
 | 0,a,q,v,ha,hj,hv,hqa,hk=>by
  refine aj ?_;simp(disch:=try exact ag)[fS];rw[Nat.pow_zero,Yc]at ha;rw[Yk ha,Wr ha,Nat.add_zero]at hk;exact hk v hv
 | j+1,a,q,v,ha,hj,hv,hqa,hk=>by
  have h40:(2:Nat)^40=1099511627776:=ae;have hp1:len (b*2^j)<=M:=nj (by have:=yi b j;omega);have hp2:len a<=M:=nj (by have:=wR (Wx ha);have:=yi b (j+1);omega);have hsh:=pm (a:=b) (n:=j) aa aa;have hor:=iG (a:=a) (b:=b*2^j) aa aa;have e1:(((j+1:Nat):Int)-1)=(j:Int):=aa
  have hstep:=MC (a:=a) (b:=b) (n:=j) hb;have ih:=qd hb M hM hbM k j;have hlq:len q<1000000000:=Zk (jL (Nat.le_add_right _ _)) hqa;rw[Nat.pow_succ,<-Nat.mul_assoc]at ha;refine aj ?_;rw[e1];generalize hc:b*2^j=c at *;simp(disch:=try exact ag)[fS];refine aT ?_;simp(disch:=try exact ag)
  refine cd hsh ?_;simp(disch:=try exact ag);refine cd hor ?_;by_cases hca:c<=a
  .have hcm:(0:Int)<=cmp a c:=by unfold cmp;rw[if_neg aa];split<;>omega
   obtain⟨s1,s2⟩:=hstep hca;have h2j:len (q+2^j)<1000000000:=Zk (jL (by rw[s1];exact Nat.add_le_add_left (Nat.le_add_right _ _) _)) hqa;have h2j2:len (2^j)<1000000000:=Zk (jL (Nat.le_add_left _ _)) h2j;have hone:=pm (a:=1) (n:=j) (by have:=jy (n:=1) (k:=1) ae;omega) aa;rw[Xr,ma]at hone
   have hli:cO 1 [D.int IntKind.u32 0] [(0,.d (.int .u32 1))] []=some ([.int .u32 1],[]):=by simp[cO,jv,iH,toD]
   simp(disch:=try exact ag)[hcm];refine aT ?_;simp(disch:=try exact ag)[hcm];refine cd (ui hca aa) ?_;simp(disch:=try exact ag);rw[hli];simp(disch:=try exact ag);refine cd hone ?_;simp(disch:=try exact ag)
   refine cdx (ds:=[nat q,nat (2^j)]) (by simp[aS,j0 hv]) (nD (a:=q) (b:=2^j) aa aa) ?_;simp(disch:=try exact ag);refine ih (a-c) (q+2^j) _ aa aa (.inl rfl) (by rw[s1,<-Nat.add_assoc]at hqa;exact hqa) (fun v2 hv2=>?_);rw[<-s2];exact hk v2 (by rw[s1,<-Nat.add_assoc];exact hv2)
  .have hcm:¬(0:Int)<=cmp a c:=by unfold cmp;rw[if_pos aa];omega
   simp(disch:=try exact ag)[hcm];refine aT ?_;simp(disch:=try exact ag)[hcm];exact ih a q v aa aa hv hqa hk
theorem yP(hb:0<b)(ha:len a<1000000000)(hbl:len b<1000000000):CP Y F.gj [nat a,nat b] (.tup [nat (a/b),nat (a%b)]):=by
 refine pA ?_;have h40:(2:Nat)^40=1099511627776:=ae;have hba:=qn a;have hbb:=qn b;have hb1:=uJ (a:=a) aa;have hb2:=uJ (a:=b) aa;have hqa:len (a/b)<1000000000:=Zk (jL (Yu _ _)) ha
 have hout:∀v2,isN v2 (0+a/b)->∀h,out (.tup [nat (a/b),nat (a%b)]) (.tup [v2,nat (a%b)]) h:=fun v2 hv h=>by
  rw[Zp]at hv;exact⟨h,by simp[bJ,aS,j0 hv]⟩
 simp(disch:=try exact ag)[gj];refine cd hb1 ?_;simp(disch:=try exact ag);refine cd hb2 ?_;simp(disch:=try exact ag);by_cases h:bln b<=bln a
 .have e:((bln a:Int)-(bln b:Int))=((bln a-bln b+1:Nat):Int)-1:=aa;rw[e];refine lo (qd hb (len a+1) aa (nj aa) _ (bln a-bln b+1) a 0 _ ?_ aa (.inr ⟨rfl,rfl⟩) (by rw[Zp];exact hqa) fun v2 hv=>?_)
  .have h1:=oF a;have h2:=uI (n:=b) aa;have h3:=qS (n:=b) aa;have h4:=Zz (2^(bln a-bln b+1)) h2;rw[<-Y6,show bln b-1+(bln a-bln b+1)=bln a by omega]at h4;omega
  .simp(disch:=try exact ag);exact hout v2 hv _
 ·have hab:a<b:=by
   rcases Zi a b with h1|h1
   .exact h1
   .have:=wR h1;omega
  refine lo (aj ?_);have g:¬(0:Int)<=(bln a:Int)-(bln b:Int):=aa;simp(disch:=try exact ag)[fS,g];have:=hout (.d nPQ) (.inr ⟨by rw[Wr hab],rfl⟩);rw[Yk hab]at this ⊢;exact this _
theorem wJ(k:KL):∀(b a:Nat),len a<1000000000->len b<1000000000->k (.exit 0) [nat (Nat.gcd a b)] []->lp (gR (CX Y)) [] [] [nat a,nat b] [] k:=by
 intro b
 induction b using Nat.strongRecOn with
 | _ b ih=>
  intro a ha hb hk;refine aj ?_;by_cases h0:b=0
  .subst h0;have hz:bj (nat 0)=some (I 0):=rfl;rw[Nat.gcd_zero_right]at hk;simp(disch:=try exact ag)[gR,hz];exact hk
  .have hl:bj (nat b)=some (I (len b)):=rfl;have hp:=oQ.2 (X1 h0);have hm:=Y7 a (X1 h0);simp(disch:=try exact ag)[gR,hl];refine cd (yP (X1 h0) ha hb) ?_;simp(disch:=try exact ag);refine ih (a%b) hm b hb (Zk (jL (Wx hm)) hb) ?_
   rw[V5 b,<-Nat.gcd_rec,V5];exact hk
theorem tL(ha:len a<1000000000)(hb:len b<1000000000):CP Y F.fq [nat a,nat b] (nat (Nat.gcd a b)):=by refine pE ?_;unfold fq;refine wJ _ b a ha hb ?_;simp(disch:=try exact ag);exact aav ..
def rdT(s:LuQ):LuQ:=if s.headD 0=45 then s.tail else s
def rdN(s:LuQ):Bool:=decide (s.headD 0=45)
def rd(s:LuQ):Option Int:=if(rdT s).length<=400 then rdS s else none
theorem acl(s:LuQ):rd s=if(rdT s).length<=400∧rdT s≠[]∧¬((rdT s).headD 0=48∧(1<(rdT s).length∨rdN s=true))∧(rdT s).all qt=true then some (if rdN s=true then -(fE 0 (rdT s):Int)else(fE 0 (rdT s):Int))else none:=by
 unfold rd rdS
 have hcan:∀t:LuQ,qR t=true↔t≠[]∧t.all qt=true∧¬(1<t.length∧t.headD 0=48):=fun t=>by
  simp[qR,and_assoc];intro _ _;constructor
  .rintro(h|h) g
   .omega
   omega
  .intro h;by_cases g:1<t.length
   .grind
   .exact .inl aa
 by_cases h:s.headD 0=45
 .have e1:rdT s=s.tail:=by unfold rdT;rw[if_pos h]
  have e2:rdN s=true:=by unfold rdN;simpa using h
  rw[e1,e2,if_pos h];generalize s.tail=t;by_cases h1:t.length<=400
  .simp only[h1,if_true,true_and,hcan];by_cases h2:t≠[]∧¬(t.headD 0=48∧(1<t.length∨True))∧t.all qt=true
   .grind
   .rw[if_neg h2,if_neg];rintro⟨⟨a,b,c⟩,d⟩;refine h2 ⟨a,fun x=>?_,b⟩;by_cases g:1<t.length
    .grind
    .apply d;cases t with
     |nil=>trivial
     | cons y t=>
      grind
  grind
 .have e1:rdT s=s:=by unfold rdT;rw[if_neg h]
  have e2:rdN s=false:=by unfold rdN;simpa using h
  grind
theorem oT(h:n<10^k):len n<=k:=by refine jy (Z1 h (X0 ae k))
theorem Bb:nat 10=.d (.sl 1 [.int .u32 10]):=by rfl
def rdH(neg:Bool)(x:V):Hp:=[(1,.vars [.d (.bool false),.d nPQ]),(1,.vars [.d (.bool neg),x])]
@[simp]theorem agV(n:Nat):okV (nat n)=true:=id rfl
theorem xj{v:V}(h:isN v n):okV v=true:=by rcases h with rfl|⟨_,rfl⟩<;>rfl
theorem tt(neg:Bool)(k:KL)(h0:Hp)(hh:h0.length=2):∀(q a:LuQ)(x:V),(a++q).length<=400->fE 0 a<10^a.length->isN x (fE 0 a) ->
  (q.all qt=true->∀x',isN x' (fE 0 (a++q))->k (.exit 0) [] (rdH neg x'))->(q.all qt=false->∀x',k .ret [B false] (rdH neg x')) ->
  lp (d7 (CX Y) (.ptr 0 1 0 2) (S (a++q)) (.ptr 1 1 0 2) (I (a++q).length)) [] h0 [I a.length] (rdH neg x) k
 | []=>by
  intro a x hN ha hx h1 h2;refine aj ?_;simp(disch:=try exact ag)[d7];exact h1 rfl x (by simpa using hx)
 | b::q=>by
  intro a x hN ha hx h1 h2;have h40:(2:Nat)^40=1099511627776:=ae;have hix:ixS (S (a++b::q)) (.d (.int .i64 (a.length:Int)))=some (.d (.int .u8 b.toNat)):=VL _ aa af;have hb256:=b.toNat_lt;have hok:=xj hx;simp at hN;refine aj ?_;by_cases hd:qt b=true
  .have hb:=mA.1 hd;obtain⟨d,hd2⟩:∃d,b.toNat=48+d:=⟨b.toNat-48,aa⟩;have hdi:(b.toNat:Int)-48=d:=aa;have hla:=oT ha;have hla10:fE 0 a*10<10^(a.length+1):=by rw[Nat.pow_succ];omega
   have hlb:=oT hla10;have hl10:=jy (n:=10) (k:=1) ae;have hld:=jy (n:=d) (k:=1) (by simp only[W];omega);have hn1:fE 0 (a++[b])=fE 0 a*10+d:=by rw[vy,ky,HU];omega
   have ih:=tt neg k h0 hh q (a++[b]) (nat (fE 0 a*10+d)) bK (by rw[hn1,Zm,List.length_singleton,Nat.pow_succ];omega) (by rw[hn1];exact .inl rfl) (fun g=>by simpa using h1 (by simp[g,hd])) (fun g=>h2 (by simp[g]));generalize fE 0 a=n at *;have hpr:=jU (a:=n) (b:=10) aa aa;have hof:=vf (n:=d) aa
   have hpl:=nD (a:=n*10) (b:=d) aa aa;have hli:∀h,cO 1 [D.int IntKind.u32 0] [(0,.d (.int .u32 10))] h=some ([.int .u32 10],h):=fun h=>by simp[cO,jv,iH,toD]
   clear h1 h2;simp(disch:=try exact ag)[d7,hix,show ¬(b.toNat:Int)<48 by omega,show ¬(57:Int)<b.toNat by omega,rdH];rw[hli];simp(disch:=try exact ag);rw[<-Bb];refine cdx (ds:=[nat n,nat 10]) (by simp[aS,j0 hx]) hpr ?_;simp(disch:=try exact ag)[hix,hdi];refine cd hof ?_
   simp(disch:=try exact ag);refine cd hpl ?_;simp(disch:=try exact ag)[c9,hh];simpa[rdH,c9]using ih
  .have hnd:¬(48<=b.toNat∧b.toNat<=57):=fun g=>hd (mA.2 g)
   have:=h2 (by simp[hd]) x;clear h1 h2;by_cases g1:b.toNat<48
   .simp(disch:=try exact ag)[d7,hix,show(b.toNat:Int)<48 by omega,rdH];simpa[rdH]using this
   .simp(disch:=try exact ag)[d7,hix,show ¬(b.toNat:Int)<48 by omega,show(57:Int)<b.toNat by omega,rdH];simpa[rdH]using this
def rdO(T:LuQ)(neg:Bool):Option Int:=if T.length<=400∧T≠[]∧¬(T.headD 0=48∧(1<T.length∨neg=true))∧T.all qt=true then some (if neg=true then -(fE 0 T:Int)else(fE 0 T:Int))else none
def rdV(o:Option Int):V:=.tup [aeb (o.getD 0),B o.isSome]
def rI(v:V):LwQ->Hp->Prop:=fun l9 h=>
  bnd (biS .eql (ge l9 0) (.d (.str []))) fun v11=>
  gd v11 false h (fun q=>q (ge l9 0) h) fun v12 h=>
  gd v11 false h (fun q=>bnd (ixS v12 (.d (.int .i64 0))) fun v=>q v h) fun v13 h=>
  gd v11 false h (fun q=>bnd (biI .eql v13 (.d (.int .u8 48))) fun v=>q v h) fun v14 h=>
  gd v11 false h (fun q=>q v14 h) fun v15 h=>
  gd v15 true h (fun q=>q (ge l9 0) h) fun v16 h=>
  gd v15 true h (fun q=>bnd (nS v16) fun v=>q v h) fun v17 h=>
  gd v15 true h (fun q=>bnd (biI .gtr v17 (.d (.int .i64 1))) fun v=>q v h) fun v18 h=>
  gd v15 true h (fun q=>q v18 h) fun v19 h=>
  gd v19 false h (fun q=>bnd (faV 0 (.ptr 1 1 0 2)) fun v=>q v h) fun v20 h=>
  gd v19 false h (fun q=>bnd (ld1 h v20) fun v=>q v h) fun v21 h=>
  gd v15 true h (fun q=>bnd (qM v19 (.d (.bool true)) v21) fun v=>q v h) fun v22 h=>
  gd v11 false h (fun q=>bnd (qM v15 v22 (.d (.bool false))) fun v=>q v h) fun v23 h=>
  bnd (qM v11 (.d (.bool true)) v23) fun v24=>
  gd v24 false h (fun q=>q (ge l9 0) h) fun v25 h=>
  gd v24 false h (fun q=>bnd (nS v25) fun v=>q v h) fun v26 h=>
  gd v24 false h (fun q=>bnd (biI .gtr v26 (.d (.int .i64 400))) fun v=>q v h) fun v27 h=>
  bnd (qM v24 (.d (.bool true)) v27) fun v28=>
  cnd v28 (
   bnd (bld [(0,1),(1,1)] [.bool false,nPQ] []) fun v29=>
   stD h 2 (.ptr 0 1 0 2) v29 fun _ h=>
   bnd (ldA h 2 (.ptr 0 1 0 2)) fun v31=>
   out v (.tup [v31,(.d (.bool false))]) h) (
   bnd (nS (ge l9 0)) fun v32=>
   lp (d7 (CX Y) (.ptr 0 1 0 2) (ge l9 0) (.ptr 1 1 0 2) v32) [] h [(.d (.int .i64 0))] h (exK [((.exit 0),fun l33 h=>
    bnd (ldA h 2 (.ptr 1 1 0 2)) fun v34=>
    stD h 2 (.ptr 0 1 0 2) v34 fun _ h=>
    bnd (ldA h 2 (.ptr 0 1 0 2)) fun v36=>
    out v (.tup [v36,(.d (.bool true))]) h),
    (.ret,fun l33 h=>
    bnd (ldA h 2 (.ptr 0 1 0 2)) fun v37=>
    out v (.tup [v37,(ge l33 0)]) h)]))
theorem nf(h:Hp):out (rdV none) (.tup [.agg [.d (.bool false),.d nPQ],.d (.bool false)]) h:=⟨h,by rfl⟩
theorem yp(T:LuQ)(neg:Bool):rI (rdV (rdO T neg)) [S T] (rdH neg (.d nPQ)):=by
 have hno:¬(T.length<=400∧T≠[]∧¬(T.headD 0=48∧(1<T.length∨neg=true))∧T.all qt=true)->rdO T neg=none:=fun h=>by unfold rdO;rw[if_neg h]
 cases T with
 | nil=>
  rw[hno af];simp(disch:=try exact ag)[rI,rdH];exact nf _
 | cons b t=>
  have hix:ixS (S (b::t)) (.d (.int .i64 0))=some (.d (.int .u8 b.toNat)):=rfl
  have hb48:(b.toNat:Int)=48↔b=48:=by
   constructor
   .intro h;apply UInt8.toNat.inj;simpa using(by omega:b.toNat=48)
   .rintro rfl;rfl
  by_cases hP:(b=48∧(1<(b::t).length∨neg=true))
  .rw[hno (by rintro⟨_,_,h,_⟩;exact h hP)];obtain⟨h1,h2⟩:=hP;have e48:=hb48.2 h1;by_cases h3:1<(b::t).length
   .have h3':(0:Int)<(t.length:Int):=by simp at h3;omega
    simp(disch:=try exact ag)[rI,hix,e48,h3,h3',rdH];exact nf _
   .have h4:neg=true:=by rcases h2 with h|h;exact absurd h h3;exact h
    subst h4;have h3':t=[]:=Zf (by simp only[List.length_cons]at h3;omega);subst h3';simp(disch:=try exact ag)[rI,hix,e48,rdH];exact nf _
  ·have main:¬400<(b::t).length->lp (d7 (CX Y) (.ptr 0 1 0 2) (S (b::t)) (.ptr 1 1 0 2) (I (b::t).length)) [] (rdH neg (.d nPQ)) [(.d (.int .i64 0))] (rdH neg (.d nPQ)) (exK [((.exit 0),fun l33 h=>
     bnd (ldA h 2 (.ptr 1 1 0 2)) fun v34=>
     stD h 2 (.ptr 0 1 0 2) v34 fun _ h=>
     bnd (ldA h 2 (.ptr 0 1 0 2)) fun v36=>
     out (rdV (rdO (b::t) neg)) (.tup [v36,(.d (.bool true))]) h),
     (.ret,fun l33 h=>
     bnd (ldA h 2 (.ptr 0 1 0 2)) fun v37=>
     out (rdV (rdO (b::t) neg)) (.tup [v37,(ge l33 0)]) h)]):=by
    intro hl;refine tt neg _ _ rfl (b::t) [] _ (by simp only[List.nil_append];omega) af (.inr ⟨rfl,rfl⟩) (fun g x' hx'=>?_) (fun g x'=>?_)
    .have hok:=xj hx'
     have hr:rdO (b::t) neg=some (if neg=true then -(fE 0 (b::t):Int)else(fE 0 (b::t):Int)):=by
      unfold rdO;rw[if_pos ⟨aa,af,by simpa using hP,g⟩]
     rw[hr]
     have hz:neg=true->fE 0 (b::t)≠0:=by
      intro hn;have hb48':b≠48:=fun e=>hP ⟨e,.inr hn⟩
      simp only[List.all_cons,Z8]at g;have hb:=mA.1 g.1;have hlo:=Ff t (b.toNat-48);have hb0:b.toNat≠48:=fun e=>hb48' (hb48.1 aa)
      have hp:1<=10^t.length:=Yj ae;have:=Zn (show 1<=b.toNat-48 by omega) hp;rw[ky,Xl,Zp];omega
     simp only[List.nil_append]at hx';generalize fE 0 (b::t)=n at *;simp(disch:=try exact ag)[rdH,hok];refine ju ?_;simp only[bJ,aS,j0 hx',rdV,Option.getD_some,Wi,aeW]
     have:aeb (if neg=true then -(n:Int)else(n:Int))=.agg [.d (.bool neg),nat n]:=by
      cases neg
      .refine nI af af
      .have:=hz rfl;refine nI af bK
     rw[this]
    .rw[hno (by rintro⟨_,_,_,h⟩;rw[g]at h;cases h)];simp(disch:=try exact ag)[rdH];exact nf _
   by_cases h48:b=48
   .have hl1:¬1<(b::t).length:=fun h=>hP ⟨h48,.inl h⟩
    have hn0:neg=false:=by cases neg;rfl;exact absurd ⟨h48,.inr rfl⟩ hP
    have h3':t=[]:=Zf (by simp only[List.length_cons]at hl1;omega);subst h48;subst hn0;subst h3';have:=main af;have e:((48:UInt8).toNat:Int)=48:=rfl;simp(disch:=try exact ag)[rI,hix,e,rdH];simpa[rdH]using this
   .have e48:¬(b.toNat:Int)=48:=fun h=>h48 (hb48.1 h)
    by_cases hl:400<(b::t).length
    .rw[hno (by rintro⟨h,_⟩;omega)];have hl':(400:Int)<(t.length:Int)+1:=by simp only[List.length_cons]at hl;omega
     simp(disch:=try exact ag)[rI,hix,e48,hl',rdH];exact nf _
    .have:=main hl;have hl':¬(400:Int)<(t.length:Int)+1:=by simp only[List.length_cons]at hl;omega
     simp(disch:=try exact ag)[rI,hix,e48,hl',rdH];simpa[rdH]using this
theorem qI(s:LuQ):CP Y F.dD [S s] (rdV (rd s)):=by
 have he:rd s=rdO (rdT s) (rdN s):=acl s;rw[he];refine sc ?_;have ht:=yp (rdT s) (rdN s);cases s with
 | nil=>
  simp(disch:=try exact ag)[dD];refine jD (l:=[S []]) (h:=rdH false (.d nPQ)) (fun q=>?_) ht;simp(disch:=try exact ag)[rdH]
 | cons b t=>
  have hix:ixS (S (b::t)) (.d (.int .i64 0))=some (.d (.int .u8 b.toNat)):=rfl;by_cases h:b=45
  .subst h;have e:((45:UInt8).toNat:Int)=45:=rfl;simp(disch:=try exact ag)[dD,hix,e];refine jD (l:=[S t]) (h:=rdH true (.d nPQ)) (fun q=>?_) ht;simp(disch:=try exact ag)[rdH]
  .have e:¬(b.toNat:Int)=45:=fun g=>h (by apply UInt8.toNat.inj;simpa using(by omega:b.toNat=45))
   have e1:rdT (b::t)=b::t:=by simp[rdT,h]
   have e2:rdN (b::t)=false:=by simp[rdN,h]
   rw[e1,e2]at ht ⊢;simp(disch:=try exact ag)[dD,hix,e];refine jD (l:=[S (b::t)]) (h:=rdH false (.d nPQ)) (fun q=>?_) ht;simp(disch:=try exact ag)[rdH]
def frL(z:Int)(d:Nat):LwQ:=[.d (.bool (decide (z<0))),.d (aaI z.natAbs),.d (aaI d)]
def jF(z:Int)(d:Nat):V:=.agg (frL z d)
theorem Ud(h:rd s=some z):z.natAbs<10^400:=by
 rw[acl]at h;split at h
 .rename_i hc;simp only[Z9]at h;have hi:=uG (rdT s) 0 hc.2.2.2;have:fE 0 (rdT s)<10^400:=Z1 hi (by set_option exponentiation.threshold 1000 in rw[Zp,Xr];exact Z4 ae hc.1)
  have hz:z.natAbs=fE 0 (rdT s):=by
   rw[<-h];split<;>simp
  rw[hz];exact this
 .cases h
theorem wV(h:rd s=some z):len z.natAbs<=400:=oT (Ud h)
def rdF(a b:LuQ):Option (Int×Nat):=match rd a,rd b with
 |some n,some d=>if 0<d∧Nat.gcd n.natAbs d.natAbs=1 then some (n,d.natAbs)else none
 |_,_=>none
def wW(o:Option (Int×Nat)):V:=.tup [jF (o.getD (0,0)).1 (o.getD (0,0)).2,B o.isSome]
theorem oO(h:Hp):out (wW none) (.tup [.agg [.d (.bool false),.d nPQ,.d nPQ],.d (.bool false)]) h:=⟨h,by simp[wW,bJ,aS,jF,frL,nE]⟩
theorem u9(a b:LuQ):CP Y F.dn [.agg [S a,S b]] (wW (rdF a b)):=by
 refine qF ?_;have h40:(2:Nat)^40=1099511627776:=ae;have ra:=qI a;have rb:=qI b;cases ha:rd a with
 | none=>
  have hF:rdF a b=none:=by simp[rdF,ha]
  rw[hF];rw[ha]at ra;simp(disch:=try exact ag)[dn];refine cd ra ?_;simp(disch:=try exact ag)[rdV,aeb,af4];refine cd rb ?_;simp(disch:=try exact ag)[rdV,aeb,af4];exact oO _
 | some n=>
  have hnl:=wV ha;rw[ha]at ra;cases hb:rd b with
  | none=>
   have hF:rdF a b=none:=by simp[rdF,ha,hb]
   rw[hF];rw[hb]at rb;simp(disch:=try exact ag)[dn];refine cd ra ?_;simp(disch:=try exact ag)[rdV,aeb,af4];refine cd rb ?_;simp(disch:=try exact ag)[rdV,aeb,af4];exact oO _
  | some d=>
   have hdl:=wV hb;rw[hb]at rb;by_cases hd0:0<d
   .have hde:d.natAbs=d:=aa;have hdp:¬len d.natAbs=0:=by have:=oQ (n:=d.natAbs);omega
    have hdn:¬d<0:=aa;have hli:∀h,cO 1 [D.int IntKind.u32 0] [(0,.d (.int .u32 1))] h=some ([.int .u32 1],h):=fun h=>by simp[cO,jv,iH,toD]
    have hco:=tL (a:=n.natAbs) (b:=d.natAbs) aa aa;have hgl:len (Nat.gcd n.natAbs d.natAbs)<=len d.natAbs:=jL (Nat.gcd_le_right _ aa);have hor:=iG (a:=Nat.gcd n.natAbs d.natAbs) (b:=1) aa (by have:=jy (n:=1) (k:=1) ae;omega);have hF:rdF a b=if Nat.gcd n.natAbs d.natAbs=1 then some (n,d.natAbs)else none:=by simp[rdF,ha,hb,hd0]
    rw[hF];rw[c9,c9]at hco;rw[ma]at hor;simp(disch:=try exact ag)[dn];refine cd ra ?_;simp(disch:=try exact ag)[rdV,aeb,af4];refine cd rb ?_;simp(disch:=try exact ag)[rdV,aeb,af4,hdn,hdp];refine cd hco ?_;simp(disch:=try exact ag);rw[hli];simp(disch:=try exact ag)
    refine cd hor ?_;by_cases hg:Nat.gcd n.natAbs d.natAbs=1
    .have hc:=jO.2 hg;rw[if_pos hg];simp(disch:=try exact ag)[hc];exact ju (by simp[wW,bJ,aS,jF,frL])
    .have hc:¬cmp (Nat.gcd n.natAbs d.natAbs) 1=0:=fun h=>hg (jO.1 h)
     rw[if_neg hg];simp(disch:=try exact ag)[hc];exact oO _
   .have hF:rdF a b=none:=by simp[rdF,ha,hb,hd0]
    rw[hF];by_cases hdn:d<0
    .simp(disch:=try exact ag)[dn];refine cd ra ?_;simp(disch:=try exact ag)[rdV,aeb,af4];refine cd rb ?_;simp(disch:=try exact ag)[rdV,aeb,af4,hdn];exact oO _
    .have hz:d=0:=aa;subst hz;have hl0:len 0=0:=oP;simp(disch:=try exact ag)[dn];refine cd ra ?_;simp(disch:=try exact ag)[rdV,aeb,af4];refine cd rb ?_;simp(disch:=try exact ag)[rdV,aeb,af4,hl0];exact oO _
theorem w9(a b:LuQ):CP Y F.gr [.agg [S a,S b]] (B (rdF a b).isSome):=by refine pK ?_;simp(disch:=try exact ag)[gr];refine cd (u9 a b) ?_;simp(disch:=try exact ag)[wW,jF,frL]
theorem xu(z:Int)(d:Nat):CP Y F.bA [jF z d] (B (decide (z=0))):=by refine lU ?_;simp(disch:=try exact ag)[bA,jF,frL];exact nN (by have:=oQ (n:=z.natAbs);rw[decide_eq_decide];omega)
theorem l8:CP Y F.fA [] (jF 0 1):=by
 refine o7 ?_;have hli:∀h,cO 1 [D.int IntKind.u32 0] [(0,.d (.int .u32 1))] h=some ([.int .u32 1],h):=fun h=>by simp[cO,jv,iH,toD]
 have h1:aaI 1=.sl 1 [.int .u32 1]:=rfl;simp(disch:=try exact ag)[fA];rw[hli];simp(disch:=try exact ag);exact ju (by simp[bJ,aS,jF,frL,nE,h1])
theorem xk{x:Int}(hx:fits x)(hy:fits y)(hc:len c<2^40)(hd:len d<2^40):CP Y F.bY [jF x c,jF y d] (jF (x*y) (c*d)):=by refine ly ?_;have ht:=mF hx hy;have hp:=jU hc hd;rw[c9,c9]at hp;simp(disch:=try exact ag)[bY,jF,frL];refine cd ht ?_;simp(disch:=try exact ag);refine cd hp ?_;simp(disch:=try exact ag)[aeb,af4,c9];exact ju (by simp[bJ,aS])
def uw(a b:Int×Nat):Int×Nat:=if a.2=b.2 then(a.1+b.1,a.2)else(a.1*b.2+b.1*a.2,a.2*b.2)
theorem zQ{x:Int}(hx:fits x)(hy:fits y)(hc:fits c)(hd:fits d)(h1:fits (x*d))(h2:fits (y*c)):CP Y F.bR [jF x c,jF y d] (jF (uw (x,c) (y,d)).1 (uw (x,c) (y,d)).2):=by
 refine mc ?_;have hor:=iG (a:=c) (b:=d) hc hd;rw[c9,c9]at hor;unfold uw;by_cases h:c=d
 .subst h;have ha:=sK hx hy;have hz:=jO.2 (rfl:c=c);simp(disch:=try exact ag)[bR,jF,frL];refine cd hor ?_;simp(disch:=try exact ag)[hz];refine cd ha ?_;simp(disch:=try exact ag)[aeb,af4];exact ju (by simp[bJ,aS])
 .have hz:¬cmp c d=0:=fun g=>h (jO.1 g)
  have t1:=mF (a:=x) (b:=(d:Int)) hx hd;have t2:=mF (a:=y) (b:=(c:Int)) hy hc;have ha:=sK h1 h2;have hp:=jU hc hd;have e1:aeb (d:Int)=.agg [.d (.bool false),.d (aaI d)]:=nI af af;have e2:aeb (c:Int)=.agg [.d (.bool false),.d (aaI c)]:=nI af af;rw[e1]at t1;rw[e2]at t2;rw[c9,c9]at hp;rw[if_neg h]
  simp(disch:=try exact ag)[bR,jF,frL];refine cd hor ?_;simp(disch:=try exact ag)[hz];refine cd t1 ?_;simp(disch:=try exact ag);refine cd t2 ?_;simp(disch:=try exact ag);refine cd ha ?_;simp(disch:=try exact ag);refine cd hp ?_
  simp(disch:=try exact ag)[aeb,af4,c9];exact ju (by simp[bJ,aS])
theorem dM(h:a<=b):ndg a<=ndg b:=cN (Zk h (cY b)) (md b)
theorem N7(h:n<9223372036854775808):CP Y F.fG [I n] (S (ai n)):=by
 refine DZ ?_;simp[fG];have e:itoa (n:Int)=ai n:=by unfold itoa;rw[if_neg aa];rfl
 refine cd (DG (z:=n) aa aa) ?_;rw[e]
 try simp(disch:=try exact ag)
 exact fD rfl
theorem wK(s:LuQ):CP Y F.aR [S s] (.tup [B (rdN s),S (rdT s)]):=by
 refine F7 ?_;cases s with
 | nil=>
  simp[aR];exact aG rfl rfl
 | cons c t=>
  have hix:ixS (S (c::t)) (.d (.int .i64 0))=some (.d (.int .u8 c.toNat)):=rfl;by_cases h:c=45
  .subst h;have e:((45:UInt8).toNat:Int)=45:=rfl;simp(disch:=try exact ag)[aR,hix,e];exact aG rfl rfl
  .have e:¬(c.toNat:Int)=45:=fun g=>h (by apply UInt8.toNat.inj;simpa using(by omega:c.toNat=45))
   have e1:rdT (c::t)=c::t:=by simp[rdT,h]
   have e2:rdN (c::t)=false:=by simp[rdN,h]
   rw[e1,e2];simp[aR,hix,e];exact aG rfl rfl
theorem Ie(l:LuQ)(hl:l.length<1000000000)(k:KL):∀(q p:LuQ),p++q=l->(q.all qt=true->k (.exit 0) [] [])->(q.all qt=false->k .ret [B false] [])->lp (fv (CX Y) (lst u8 l) (I l.length)) [] [] [I p.length] [] k
 | []=>by
  intro p hp h0 h1;simp at hp;subst hp;refine aj ?_;simp[fv];exact h0 rfl
 | c::q=>by
  intro p hp h0 h1;have hpl:p.length<l.length:=by subst hp;simp
  have hc:nth 0 l p.length=c:=by subst hp;simp
  have e1:=fun h:Hp=>kv u8 l h (k:=.i64) (i:=(p.length:Int)) aa aa
  have e2:=fun h:Hp=>aC u8 0 l h (j:=p.length) hpl
  rw[hc]at e2;simp only[Int.toNat_natCast]at e1;have ih:=Ie l hl k q (p++[c]) (by simpa using hp);refine aj ?_;by_cases g1:(c.toNat:Int)<48
  .have g3:qt c=false:=by rw[Bool.eq_false_iff];intro h;rw[mA]at h;omega
   simp(disch:=try exact ag)[fv,e1,e2,u8,g1];exact h1 (by simp[g3])
  .by_cases g2:(57:Int)<c.toNat
   .have g3:qt c=false:=by rw[Bool.eq_false_iff];intro h;rw[mA]at h;omega
    simp(disch:=try exact ag)[fv,e1,e2,u8,g1,g2];exact h1 (by simp[g3])
   .have g3:qt c=true:=by rw[mA];omega
    have:=ih (fun h=>h0 (by simp[g3];simpa using h)) (fun h=>h1 (by simp only[List.all_cons,h,Wa]));simp(disch:=try exact ag)[fv,e1,e2,u8,g1,g2];simpa using this
theorem abC(l:LuQ)(hl:l.length<1000000000):CP Y F.iF [S l] (B (qR l)):=by
 refine yw ?_;unfold iF
 show cvB (S l) _ _
 rw[acO];have lL:nS (S l)=some (I l.length):=rfl;simp;refine lo (Ie l hl _ l [] rfl (fun e=>?_) (fun e=>?_))
 .simp only[iP];cases l with
  | nil=>
   simp[lL];exact nN (by simp[qR])
  | cons c t=>
   have hix:ixS (S (c::t)) (.d (.int .i64 0))=some (.d (.int .u8 c.toNat)):=rfl;cases t with
   | nil=>
    simp[lL];exact nN (by simp[qR]at e ⊢;exact e)
   | cons d t=>
    obtain⟨N,hN⟩:∃N,(c::d::t).length=N:=⟨_,rfl⟩;have hN2:2<=N:=by rw[<-hN];simp only[List.length_cons];omega
    rw[hN]at lL;have g2:(1:Int)<(N:Int):=aa;have g3:¬(N:Int)=1:=aa;by_cases h:c=48
    .subst h;have e48:((48:UInt8).toNat:Int)=48:=rfl;simp[lL,g2,g3,hix,e48];exact nN (by simp[qR])
    .have e48:¬(c.toNat:Int)=48:=fun g=>h (by apply UInt8.toNat.inj;simpa using(by omega:c.toNat=48))
     simp[lL,g2,g3,hix,e48]
     exact nN (by
      have:qR (c::d::t)=true:=by simp only[qR,e];simp[h]
      exact this.symm)
 .simp only[AL,DL];exact nN (by simp only[qR,e,Wa,V9])
theorem Ss(l:LuQ)(hl:l.length<1000000000):CP Y F.kC [S l] (I (if qR l=true∧l.length<=400 then 0 else 2)):=by
 refine C7 ?_;have lL:nS (S l)=some (I l.length):=rfl;obtain⟨N,hN⟩:=mnQ (l.length);rw[hN]at lL ⊢;simp[kC];refine cd (abC l hl) ?_;cases hc:qR l with
 | false=>
  simp<;>exact cx af
 | true=>
  by_cases h:(400:Int)<N
  .simp[lL,h]<;>exact cx (by rw[if_neg aa])
  .have h2:true=true∧N<=400:=⟨rfl,aa⟩;simp[lL,h]<;>exact cx (by rw[if_pos h2.2])
theorem Rt(s:LuQ):(rd s).isSome=(!(rdN s&&decide (rdT s=[48]))&&(qR (rdT s)&&decide ((rdT s).length<=400))):=by
 unfold rd rdS rdN rdT;by_cases h45:s.headD 0=45
 .simp only[h45,if_true];obtain⟨t,ht⟩:=mnQ (s.tail);rw[ht];by_cases hl:t.length<=400
  .by_cases h48:t=[48]
   .simp[h48]
   .cases hc:qR t<;>simp[hl,h48]
  .simp[hl]
 .simp only[h45,if_false];by_cases hl:s.length<=400
  .cases hc:qR s<;>simp[hl]
  .simp[hl]
theorem H7(s:LuQ)(hs:s.length<1000000000):CP Y F.mS [S s] (I (if(rd s).isSome then 0 else 2)):=by
 refine Ga ?_
 have hT:(rdT s).length<1000000000:=by
  unfold rdT;split
  .have:s.tail.length=s.length-1:=List.length_tail;omega
  .exact hs
 rw[Rt];simp[mS];refine cd (wK s) ?_;have hck:=Ss (rdT s) hT;obtain⟨t,ht⟩:=mnQ (rdT s);rw[ht]at hck ⊢;obtain⟨c4,hc4⟩:∃c4,(qR t&&decide (t.length<=400))=c4:=⟨_,rfl⟩
 have hck2:CP Y F.kC [S t] (I (if c4=true then 0 else 2)):=by
  have:(if qR t=true∧t.length<=400 then(0:Int)else 2)=if c4=true then 0 else 2:=by
   rw[<-hc4];by_cases h:qR t=true∧t.length<=400
   .rw[if_pos h];simp[h]
   .rw[if_neg h];rw[if_neg (by simpa using h)]
  rw[<-this];exact hck
 rw[hc4];cases hn:rdN s with
 | true=>
  by_cases h3:t=[48]
  .simp[h3]<;>exact cx af
  .simp[h3];refine cd hck2 ?_;cases c4 with
   |true=>simp[h3]<;>exact cx (by simp[h3])
   |false=>simp[h3]<;>exact cx (by simp[h3])
 | false=>
  simp;refine cd hck2 ?_;cases c4 with
  |true=>simp<;>exact cx af
  |false=>simp<;>exact cx af
theorem uE(z:Int):rdT (itoa z)=ai z.natAbs:=by
 unfold itoa rdT;split
 .simp
 .rw[if_neg (tg _)]
theorem PI(h:rd s=some z):s=itoa z∧ndg z.natAbs<1000000:=by
 have hb:=Ud h;unfold rd at h;split at h
 .exact⟨Ue h,by have:=cN hb ae;omega⟩
 .cases h
theorem iO(h:n<=2^j):len n<=j+1:=by refine jy (Zk h ?_);have h1:2^j<=W^j:=X0 ae j;have h2:W^j<W^(j+1):=Nat.pow_lt_pow_right ae aa;omega
theorem gP(h:Hp):cO 1 [D.int IntKind.u32 0] [(0,.d (.int .u32 1))] h=some ([.int .u32 1],h):=by rfl
theorem vu{w N:Nat}(hw0:0<w)(hw:w<100000000)(hN:N<100000000)(k:KL):∀(n i low high ou:Nat),i+n=N->low<=2^(w+1)->high<=2^(w+1)->ou<2^(i+64) ->
  (∀r,CU w n low high ou=some r->k (.exit 0) [nat r] [])->(CU w n low high ou=none->k .ret [.d nPQ,B false] []) ->
  lp (fQ (CX Y) (I w) (nat (2^(w+1))) (I N)) [] [] [nat low,nat high,nat ou,I i] [] k
 | 0,i,low,high,ou,hi,hl,hh,ho,h1,h2=>by
  refine aj ?_;simp(disch:=try exact ag)[fQ];exact h1 ou rfl
 | n+1,i,low,high,ou,hi,hl,hh,ho,h1,h2=>by
  have h40:(2:Nat)^40=1099511627776:=ae;have ih:=vu hw0 hw hN k n (i+1);have b1:=iO hl;have b2:=iO hh;have b3:=iO (Wx ho);have q1:=BU hl;have q2:=Db hh;have e2:2^(w+1)*2^(w+1)=2^(2*w+2):=by rw[<-Y6];congr 1;omega
  have c1:=iO (n:=low*low) (j:=2*w+2) (by rw[<-e2];exact Zn hl hl);have c2:=iO (n:=high*high) (j:=2*w+2) (by rw[<-e2];exact Zn hh hh);have hq:high*high/2^w<=2^(w+2):=BU hh;have c3:=iO hq;have c4:=iO q1;have hqm:high*high/2^w*2^w<=high*high:=Ws _ _;have c5:=jL hqm
  have p1:=jU (a:=low) (b:=low) aa aa;have p2:=jU (a:=high) (b:=high) aa aa;have s1:=tT (a:=low*low) (n:=w) aa hw0 aa;have s2:=tT (a:=high*high) (n:=w) aa hw0 aa;have s3:=pm (a:=high*high/2^w) (n:=w) aa aa
  have o1:=iG (a:=high*high/2^w*2^w) (b:=high*high) aa aa;have s4:=pm (a:=ou) (n:=1) aa aa;have l1:=jy (n:=1) (k:=1) ae;have pl:=nD (a:=high*high/2^w) (b:=1) aa aa;have lt:=iO (Z7 (2^(w+1)));rw[Nat.pow_one,show((1:Nat):Int)=1 from rfl]at s4;rw[ma]at pl;simp only[CU]at h1 h2
  have hox:ou*2+1<2^(i+1+64):=by rw[show i+1+64=(i+64)+1 by omega,Nat.pow_succ];omega
  have ho2:ou*2<2^(i+1+64):=aa;have d1:=iO (Wx ho2);have pl3:=nD (a:=ou*2) (b:=1) aa aa;rw[ma]at pl3;have hpw:2^(w+2)=2^(w+1)*2:=Nat.pow_succ ..;generalize hL2:low*low=L2 at *;generalize hLq:L2/2^w=Lq at *;generalize hH2:high*high=H2 at *;generalize hHq:H2/2^w=Hq at *
  obtain⟨H',hH'⟩:∃H',(if Hq*2^w=H2 then Hq else Hq+1)=H':=⟨_,rfl⟩;rw[hH']at q2 h1 h2;have c6:=iO q2;have s5:=tT (a:=Lq) (n:=1) aa aa aa;have s6:=tT (a:=H'+1) (n:=1) (by have:=iO (n:=H'+1) (j:=w+3) (by rw[Nat.pow_succ];have:=Zq (w+2);omega);omega) aa aa;rw[Nat.pow_one,show(-((1:Nat):Int)) = -1 from rfl]at s5 s6
  have o2:=iG (a:=Lq) (b:=2^(w+1)) aa aa;have o3:=iG (a:=H') (b:=2^(w+1)) aa aa;have pl2:=nD (a:=H') (b:=1) aa aa;rw[ma]at pl2;refine aj ?_;simp(disch:=try exact ag)[fQ];refine aT ?_;simp(disch:=try exact ag);refine cd p1 ?_
  simp(disch:=try exact ag);refine cd s1 ?_;simp(disch:=try exact ag);refine cd p2 ?_;simp(disch:=try exact ag);refine cd s2 ?_;simp(disch:=try exact ag);refine cd s3 ?_;simp(disch:=try exact ag);refine cd o1 ?_;by_cases he:Hq*2^w=H2
  .have hc:=jO.2 he;rw[if_pos he]at hH';simp(disch:=try exact ag)[hc];refine aT ?_;simp(disch:=try exact ag);rw[hH'];refine cd s4 ?_;simp(disch:=try exact ag);refine aT ?_;simp(disch:=try exact ag);refine cd o2 ?_;by_cases ht:2^(w+1)<=Lq
   .have hcm:(0:Int)<=cmp Lq (2^(w+1)):=by unfold cmp;rw[if_neg aa];split<;>omega
    rw[if_pos ht]at h1 h2;simp(disch:=try exact ag)[hcm];refine aT ?_;simp(disch:=try exact ag)[hcm,gP];refine cd pl3 ?_;simp(disch:=try exact ag);refine cd s5 ?_;simp(disch:=try exact ag)[gP];refine cd pl2 ?_;simp(disch:=try exact ag);refine cd s6 ?_
    simp(disch:=try exact ag);exact ih (Lq/2) ((H'+1)/2) (ou*2+1) aa aa aa hox h1 h2
   .have hcm:¬(0:Int)<=cmp Lq (2^(w+1)):=by unfold cmp;rw[if_pos aa];omega
    rw[if_neg ht]at h1 h2;simp(disch:=try exact ag)[hcm];refine aT ?_;simp(disch:=try exact ag)[hcm];refine cd o3 ?_;by_cases hu:2^(w+1)<=H'
    .have hcm2:(0:Int)<=cmp H' (2^(w+1)):=by unfold cmp;rw[if_neg aa];split<;>omega
     rw[if_pos hu]at h1 h2;simp(disch:=try exact ag)[hcm2];exact h2 rfl
    .have hcm2:¬(0:Int)<=cmp H' (2^(w+1)):=by unfold cmp;rw[if_pos aa];omega
     rw[if_neg hu]at h1 h2;simp(disch:=try exact ag)[hcm2];exact ih Lq H' (ou*2) aa aa aa ho2 h1 h2
  .have hc:¬cmp (Hq*2^w) H2=0:=fun h=>he (jO.1 h)
   rw[if_neg he]at hH';simp(disch:=try exact ag)[hc];refine aT ?_;simp(disch:=try exact ag)[gP];refine cd pl ?_;rw[hH'];simp(disch:=try exact ag);refine cd s4 ?_;simp(disch:=try exact ag);refine aT ?_;simp(disch:=try exact ag);refine cd o2 ?_;by_cases ht:2^(w+1)<=Lq
   .have hcm:(0:Int)<=cmp Lq (2^(w+1)):=by unfold cmp;rw[if_neg aa];split<;>omega
    rw[if_pos ht]at h1 h2;simp(disch:=try exact ag)[hcm];refine aT ?_;simp(disch:=try exact ag)[hcm,gP];refine cd pl3 ?_;simp(disch:=try exact ag);refine cd s5 ?_;simp(disch:=try exact ag)[gP];refine cd pl2 ?_;simp(disch:=try exact ag);refine cd s6 ?_
    simp(disch:=try exact ag);exact ih (Lq/2) ((H'+1)/2) (ou*2+1) aa aa aa hox h1 h2
   .have hcm:¬(0:Int)<=cmp Lq (2^(w+1)):=by unfold cmp;rw[if_pos aa];omega
    rw[if_neg ht]at h1 h2;simp(disch:=try exact ag)[hcm];refine aT ?_;simp(disch:=try exact ag)[hcm];refine cd o3 ?_;by_cases hu:2^(w+1)<=H'
    .have hcm2:(0:Int)<=cmp H' (2^(w+1)):=by unfold cmp;rw[if_neg aa];split<;>omega
     rw[if_pos hu]at h1 h2;simp(disch:=try exact ag)[hcm2];exact h2 rfl
    .have hcm2:¬(0:Int)<=cmp H' (2^(w+1)):=by unfold cmp;rw[if_pos aa];omega
     rw[if_neg hu]at h1 h2;simp(disch:=try exact ag)[hcm2];exact ih Lq H' (ou*2) aa aa aa ho2 h1 h2
def Bj(o:Option Nat):V:=.tup [nat (o.getD 0),B o.isSome]
theorem t6{p:Nat}(hp:1<=p)(hp2:p<4294967296)(hn:n<100000000)(hw0:32<=w)(hw:w<100000000):CP Y F.dW [I p,I n,I w] (Bj (pq p n w)):=by
 refine og ?_;have h40:(2:Nat)^40=1099511627776:=ae;have lp1:=jy (n:=p) (k:=1) (by simp only[W];omega);have hb:=km (n:=p) (k:=32) (by simpa using hp2);have hb0:=qS (n:=p) aa;have hbl:=oF p;obtain⟨j,hj⟩:∃j,bln p=j+1:=⟨bln p-1,aa⟩;have o1:=vf (n:=p) aa;have b1:=uJ (a:=p) aa;have o2:=vf (n:=j) aa
 have s1:=pm (a:=p) (n:=w-j) aa aa;have l1:=jy (n:=1) (k:=1) ae;have s2:=pm (a:=1) (n:=w+1) aa aa;rw[Xr,ma]at s2;rw[hj]at b1 hbl;have e1:((w:Int)-(j:Int))=((w-j:Nat):Int):=aa;have e2:((w:Int)+1)=((w+1:Nat):Int):=aa
 have hlow:p*2^(w-j)<=2^(w+1):=by
  have:=Zz (2^(w-j)) (Wx hbl);rw[<-Y6,show j+1+(w-j)=w+1 by omega]at this;exact this
 have hN:pq p n w=CU w n (p*2^(w-j)) (p*2^(w-j)) j:=by unfold pq;rw[hj];rfl
 have hjb:j<2^(0+64):=by
  have:(32:Nat)<2^(0+64):=ae;omega
 simp(disch:=try exact ag)[dW];refine cd o1 ?_;simp(disch:=try exact ag);refine cd b1 ?_;simp(disch:=try exact ag);refine cd o2 ?_;simp(disch:=try exact ag);rw[e1];refine cd s1 ?_;simp(disch:=try exact ag)[gP];rw[e2];refine cd s2 ?_;simp(disch:=try exact ag)
 refine lo (vu (w:=w) (N:=n) aa hw hn _ n 0 _ _ _ aa hlow hlow hjb (fun r hr=>?_) (fun hr=>?_))
 .rw[hN,hr];simp(disch:=try exact ag);exact ju (by simp[bJ,aS,Bj])
 .rw[hN,hr];simp(disch:=try exact ag);exact ju (by simp[bJ,aS,Bj,nat,j4,lst])
theorem pr{w:Nat}:∀(n m low high ou:Nat),(CU w (n+m) low high ou).isSome=true->(CU w n low high ou).isSome=true
 |0,m,low,high,ou,h=>rfl
 | n+1,m,low,high,ou,h=>by
  rw[show n+1+m=(n+m)+1 by omega]at h;simp only[CU]at h ⊢;generalize(if high*high/2^w*2^w=high*high then high*high/2^w else high*high/2^w+1)=H at h ⊢;by_cases g:2^(w+1)<=low*low/2^w
  .rw[if_pos g]at h ⊢;exact pr n m _ _ _ h
  .rw[if_neg g]at h ⊢;by_cases g2:2^(w+1)<=H
   .grind
   .rw[if_neg g2]at h ⊢;exact pr n m _ _ _ h
def PP(n:Nat):Nat->Nat->Bool
 |0,_=>true
 |k+1,d=>if n%d=0 then false else PP n k (d+1)
def ta(n:Int):Bool:=decide (2<=n)&&decide (n<=97)&&PP n.toNat (n.toNat-2) 2
theorem Bi:∀p:Fin 98,ta p.val=true->(pq p.val 64 160).isSome=true:=bb
theorem rK(n:Nat)(hn:n<=97)(k:KL):∀(r d:Nat),2<=d->d+r=n->(PP n r d=true->k (.exit 0) [] [])->(PP n r d=false->k .ret [B false] []) ->
  lp (fp (CX Y) (I n)) [] [] [I d] [] k
 | 0,d,hd,hr,h0,h1=>by
  refine aj ?_;simp(disch:=try exact ag)[fp];exact h0 rfl
 | r+1,d,hd,hr,h0,h1=>by
  have e:((n:Int).tmod d=0)↔n%d=0:=by
   rw[Zx aa];omega
  refine aj ?_;simp only[PP]at h0 h1;by_cases h:n%d=0
  .have e':=eq_true (e.2 h);rw[if_pos h]at h1;simp(disch:=try exact ag)[fp,e'];exact h1 rfl
  .have e':¬(n:Int).tmod d=0:=fun g=>h (e.1 g)
   rw[if_neg h]at h0 h1;have:=rK n hn k r (d+1) aa aa h0 h1;simp(disch:=try exact ag)[fp,e'];simpa using this
theorem kA(n:Int):CP Y F.dE [I n] (B (ta n)):=by
 refine o9 ?_;by_cases h1:n<2
 .simp(disch:=try exact ag)[dE,h1];exact nN (by simp[ta];omega)
 .by_cases h2:97<n
  .simp(disch:=try exact ag)[dE,h1,h2];exact nN (by simp[ta];omega)
  .obtain⟨m,rfl⟩:∃m:Nat,n=m:=⟨n.toNat,aa⟩
   have hp:ta (m:Int)=PP m (m-2) 2:=by
    unfold ta;rw[show decide ((2:Int)<=m)=true by simp;omega,show decide ((m:Int)<=97)=true by simp;omega];simp
   rw[hp];simp(disch:=try exact ag)[dE,h1,h2];refine lo (rK m aa _ (m-2) 2 aa aa (fun g=>?_) (fun g=>?_))
   .rw[g];simp(disch:=try exact ag)
   .rw[g];simp(disch:=try exact ag)
def c8(p b:Int)(l:LuQ):Bool:=match rd l with
 |some z=>decide (0<=z)&&ta p&&decide (0<=b)&&decide (b<=64)&&(pq p.toNat b.toNat 160 == some z.toNat)
 |none=>false
theorem lJ{p:Int}(h:ta p=true):2<=p∧p<=97:=by simp only[ta,Z8,decide_eq_true_eq]at h;exact h.1
theorem zN{p:Nat}(hp:ta (p:Int)=true)(hb:b<=64):∃r,pq p b 160=some r:=by have h97:=lJ hp;have h:=Bi ⟨p,aa⟩ hp;rw[show(64:Nat)=b+(64-b) by omega]at h;have:=pr (w:=160) b (64-b) _ _ _ h;exact Yh.1 this
theorem ub{w:Nat}:∀(n:Nat){j low high ou r:Nat},ou<2^j->CU w n low high ou=some r->r<2^(j+n)
 |0,j,low,high,ou,r,ho,h=>by simp only[CU,Z9]at h;subst h;exact ho
 | n+1,j,low,high,ou,r,ho,h=>by
  simp only[CU]at h;generalize(if high*high/2^w*2^w=high*high then high*high/2^w else high*high/2^w+1)=H at h;have h1:ou*2+1<2^(j+1):=by rw[Nat.pow_succ];omega
  have h2:ou*2<2^(j+1):=aa;rw[show j+(n+1)=j+1+n by omega];by_cases g:2^(w+1)<=low*low/2^w
  .rw[if_pos g]at h;exact ub n h1 h
  .rw[if_neg g]at h;by_cases g2:2^(w+1)<=H
   .rw[if_pos g2]at h;cases h
   .rw[if_neg g2]at h;exact ub n h2 h
theorem jX(p b:Int)(l:LuQ):CP Y F.aI [.agg [I p,I b,S l]] (B (c8 p b l)):=by
 refine pM ?_;have h40:(2:Nat)^40=1099511627776:=ae;have rl:=qI l;unfold c8;cases hl:rd l with
 | none=>
  rw[hl]at rl;simp(disch:=try exact ag)[aI];refine cd rl ?_;simp(disch:=try exact ag)[rdV,aeb,af4]
 | some z=>
  have hzl:=wV hl;rw[hl]at rl;simp only[];by_cases hz:z<0
  .simp(disch:=try exact ag)[aI];refine cd rl ?_;simp(disch:=try exact ag)[rdV,aeb,af4,hz];exact nN (by simp;intro;omega)
  .by_cases hp:ta p=true
   rotate_left
   .simp(disch:=try exact ag)[aI];refine cd rl ?_;simp(disch:=try exact ag)[rdV,aeb,af4,hz];refine cd (kA p) ?_;simp(disch:=try exact ag)[hp]
   .have h97:=lJ hp;by_cases hb0:b<0
    .simp(disch:=try exact ag)[aI];refine cd rl ?_;simp(disch:=try exact ag)[rdV,aeb,af4,hz];refine cd (kA p) ?_;simp(disch:=try exact ag)[hp,hb0];exact nN bK
    .by_cases hb1:64<b
     .simp(disch:=try exact ag)[aI];refine cd rl ?_;simp(disch:=try exact ag)[rdV,aeb,af4,hz];refine cd (kA p) ?_;simp(disch:=try exact ag)[hp,hb0,hb1];exact nN bK
     .obtain⟨pn,rfl⟩:∃n:Nat,p=n:=⟨p.toNat,aa⟩;obtain⟨bn,rfl⟩:∃n:Nat,b=n:=⟨b.toNat,aa⟩;obtain⟨zn,rfl⟩:∃n:Nat,z=n:=⟨z.toNat,aa⟩;obtain⟨r,hr⟩:=zN hp (b:=bn) aa;have lg:=t6 (p:=pn) (n:=bn) (w:=160) aa aa aa aa aa;rw[hr]at lg;rw[show((160:Nat):Int)=160 from rfl]at lg
      have e:(decide (0<=(zn:Int))&&ta (pn:Int)&&decide (0<=(bn:Int))&&decide ((bn:Int)<=64)&&(pq (pn:Int).toNat (bn:Int).toNat 160 == some (zn:Int).toNat))=decide (r=zn):=by
       rw[show decide (0<=(zn:Int))=true by simp,show decide (0<=(bn:Int))=true by simp,show decide ((bn:Int)<=64)=true by simp;omega,hp,Int.toNat_natCast,Int.toNat_natCast,Int.toNat_natCast,hr,Xz];simp
      rw[e];simp(disch:=try exact ag)[aI];refine cd rl ?_;simp(disch:=try exact ag)[rdV,aeb,af4,hz];refine cd (kA pn) ?_;simp(disch:=try exact ag)[hp,hb0,hb1];refine lo (aj ?_);simp(disch:=try exact ag)[kX];refine cd lg ?_
      have hrl:=iO (Wx (ub bn (j:=64) (by
       have:=km (n:=pn) (k:=32) (Z1 (by omega:pn<128) ae);have h2:(32:Nat)<2^64:=ae;omega) hr))
      rw[Int.natAbs_natCast]at hzl;have hor:CP Y F.bm [nat r,nat zn] (I (cmp r zn)):=iG aa aa;rw[c9 zn]at hor;simp(disch:=try exact ag)[Bj];refine cd hor ?_;simp(disch:=try exact ag);exact nN (by rw[decide_eq_decide,jO])
def Cz:Option Int->LiQ->Bool
 |_,[]=>true
 |prev,x::q=>ta x&&(match prev with|some y=>decide (y<x)|none=>true)&&Cz (some x) q
def Dn(p:LiQ):Bool:=Cz none p&&decide (0<p.length)&&decide (p.length<=6)
theorem pS(k:KL):∀(q a:LiQ),(a++q).length<1000000000->(Cz a.getLast? q=true->k (.exit 0) [] [])->(Cz a.getLast? q=false->k .ret [B false] []) ->
  lp (gX (CX Y) (lst di (a++q)) (lst di (a++q)) (I (a++q).length)) [] [] [I a.length] [] k
 | []=>by
  intro a hN h0 h1;refine aj ?_;simp(disch:=try exact ag)[gX];exact h0 rfl
 | x::q=>by
  intro a hN h0 h1;simp at hN;have ih:=pS k q (a++[x]) bK;rw[List.getLast?_concat]at ih;refine aj ?_;simp(disch:=try exact ag)[gX];refine cd (kA x) ?_;by_cases hp:ta x=true
  .rcases List.eq_nil_or_concat a with rfl|⟨b,y,rfl⟩
   .simp only[Cz,hp,List.getLast?_nil,Zg]at h0 h1;simp(disch:=try exact ag)[hp];have:=ih h0 h1;simpa using this
   .rw[List.concat_eq_append]at *;have hny:nth 0 (b++[y]++x::q) b.length=y:=by rw[List.append_assoc];simp
    rw[List.getLast?_concat]at h0 h1;simp only[Cz,hp,Zg]at h0 h1;have eI:∀h:Hp,ixV h 1 (lst di (b++[y]++x::q)) (.d (.int .i64 (b.length:Int)))=some (.dptr ((b++[y]++x::q).map di) b.length):=fun h=>aJ di _ h rfl af
    have eL:∀h:Hp,ld1 h (.dptr ((b++[y]++x::q).map di) b.length)=some (.d (di y)):=fun h=>by
     have:=ad6 (b++[y]++x::q) h (j:=b.length) af;rw[hny]at this;exact this
    have hA:b++[y]++[x]++q=b++[y]++x::q:=af;have hn:(b++[y]).length=b.length+1:=af;have hn2:(b++[y]++[x]).length=b.length+1+1:=af;rw[hA,hn2]at ih;rw[hn]at hN ⊢;generalize b++[y]++x::q=A at *;generalize b.length=m at *;have e':((m+1:Nat):Int)-1=(m:Int):=aa;have hl0:(0:Int)<((m+1:Nat):Int):=aa;obtain⟨m1,hm1⟩:=nmQ (m+1);rw[<-hm1]at e' hl0 ih ⊢
    by_cases hyx:y<x
    .have g1:¬x<=y:=aa;rw[show decide (y<x)=true by simpa using hyx,Zg]at h0 h1;have:=ih h0 h1;simp(disch:=try exact ag)[hp,e',hl0,eI,eL,g1];simpa using this
    .have g1:x<=y:=aa;rw[show decide (y<x)=false by simpa using hyx,V9]at h1;simp(disch:=try exact ag)[hp,e',hl0,eI,eL,g1];simpa using h1
  .have hpf:ta x=false:=by simpa using hp
   simp only[Cz,hpf,V9]at h1;simp(disch:=try exact ag)[hpf];simpa using h1
theorem tu(hN:p.length<1000000000):CP Y F.ft [lst di p] (B (Dn p)):=by
 refine pJ ?_;simp(disch:=try exact ag)[ft];refine lo (pS _ p [] (by simpa using hN) (fun g=>?_) (fun g=>?_))
 .simp only[List.getLast?_nil]at g;by_cases h1:0<p.length
  .simp(disch:=try exact ag)[h1];exact nN (by simp[Dn,g,h1];omega)
  .simp(disch:=try exact ag)[h1];exact nN (by simp[Dn,g,h1])
 .simp only[List.getLast?_nil]at g;simp(disch:=try exact ag);exact nN (by simp[Dn,g])
def wP(s:LuQ):Bool:=decide ((rdT s).length<=30)
theorem u5(hs:s.length<1000000000000):CP Y F.ew [S s] (B (wP s)):=by
 refine qA ?_;cases s with
 | nil=>
  simp(disch:=try exact ag)[ew];refine jD (l:=[I 0]) (h:=[]) (fun q=>?_) ?_
  .simp(disch:=try exact ag)
  simp(disch:=try exact ag);exact nN rfl
 | cons b t=>
  have hix:ixS (S (b::t)) (.d (.int .i64 0))=some (.d (.int .u8 b.toNat)):=rfl;by_cases h:b=45
  .subst h;have e:((45:UInt8).toNat:Int)=45:=rfl;simp at hs;simp(disch:=try exact ag)[ew,hix,e];refine jD (l:=[I t.length]) (h:=[]) (fun q=>?_) ?_
   .simp(disch:=try exact ag)
   simp(disch:=try exact ag);exact nN (by simp[wP,rdT];omega)
  .have e:¬(b.toNat:Int)=45:=fun g=>h (by apply UInt8.toNat.inj;simpa using(by omega:b.toNat=45))
   simp(disch:=try exact ag)[ew,hix,e];refine jD (l:=[I (t.length+1:Nat)]) (h:=[]) (fun q=>?_) ?_
   .simp(disch:=try exact ag)
   simp(disch:=try exact ag);exact nN (by simp[wP,rdT,h];omega)
abbrev Tx:=LuQ×LuQ
def aK(x:Tx):LdQ:=[.str x.1,.str x.2]
theorem bv(x:Tx):(aK x).length=2:=rfl
def rO(x:Tx):Bool:=wP x.1&&wP x.2&&(rdF x.1 x.2).isSome
def oH(p:LiQ)(s:List Tx):Bool:=Dn p&&decide (s.length=p.length)&&s.all rO
theorem s7{s:List Tx}(hN:s.length<1000000000)(hl:∀x∈s,x.1.length<1000000000000∧x.2.length<1000000000000)(k:KL):∀(q a:List Tx),a++q=s->(q.all rO=true->k (.exit 0) [] [nnQ])->(q.all rO=false->∀h,k .ret [B false] h) ->
  lp (jj (CX Y) (qm aK s) (I s.length)) [0] [nnQ] [I a.length] [nnQ] k
 | []=>by
  intro a ha h0 h1;simp at ha;subst ha;refine aj ?_;simp(disch:=try exact ag)[jj];exact h0 rfl
 | x::q=>by
  intro a ha h0 h1;have hal:a.length<s.length:=by subst ha;simp
  have hx:nth ([],[]) s a.length=x:=by subst ha;simp
  have hxl:=hl x (by subst ha;simp);have e1:=fun h:Hp=>oU aK bv s h (k:=.i64) (i:=(a.length:Int)) aa aa
  have e2:=fun h:Hp=>ot aK bv ([],[]) s h hal
  simp only[hx,Int.toNat_natCast]at e1 e2;have ih:=s7 hN hl k q (a++[x]) (by simpa using ha);refine aj ?_;simp(disch:=try exact ag)[jj,e1,e2,aK];refine cd (u5 hxl.1) ?_;by_cases g1:wP x.1=true
  rotate_left
  .have:=h1 (by simp[rO,g1]);simp(disch:=try exact ag)[g1];exact this _
  simp(disch:=try exact ag)[g1];refine cd (u5 hxl.2) ?_;by_cases g2:wP x.2=true
  rotate_left
  .have:=h1 (by simp[rO,g1,g2]);simp(disch:=try exact ag)[g2];exact this _
  simp(disch:=try exact ag)[g2];refine cd (w9 x.1 x.2) ?_;by_cases g3:(rdF x.1 x.2).isSome=true
  rotate_left
  .have:=h1 (by simp only[List.all_cons,rO,g1,g2,g3];simp[g3]);simp(disch:=try exact ag)[g3];exact this _
  have hx3:rO x=true:=by simp only[rO,g1,g2,g3];rfl
  simp only[List.all_cons,hx3,Zg]at h0 h1;have:=ih h0 h1;simp(disch:=try exact ag)[g3,clean,dT,kH,qk,dw,au];simpa using this
theorem AZ{s:List Tx}(hp:p.length<1000000000)(hl:∀x∈s,x.1.length<1000000000000∧x.2.length<1000000000000):CP Y F.iw [lst di p,qm aK s] (B (oH p s)):=by
 refine sw ?_;simp(disch:=try exact ag)[iw];refine cd (tu hp) ?_;by_cases h1:Dn p=true
 .by_cases h2:s.length=p.length
  .have h2':((s.length:Int)=(p.length:Int))=True:=eq_true aa;simp(disch:=try exact ag)[h1,h2'];refine lo (s7 aa hl _ s [] rfl (fun g=>?_) (fun g h=>?_))
   .simp(disch:=try exact ag);exact nN (by simp only[oH,h1,h2,g];simp)
   .simp(disch:=try exact ag);exact nN (by simp only[oH,g];simp)
  .simp(disch:=try exact ag)[h1,h2];exact nN (by simp[oH,h2])
 .simp(disch:=try exact ag)[h1];exact nN (by simp[oH,h1])
def frC(x:Int×Nat):LdQ:=[.bool (decide (x.1<0)),aaI x.1.natAbs,aaI x.2]
theorem nJ(x:Int×Nat):(frC x).length=3:=rfl
theorem ye(x:Int×Nat):V.agg ((frC x).map .d)=jF x.1 x.2:=rfl
def jK:List Tx->Option (List (Int×Nat))
 |[]=>some []
 | x::q=>match rdF x.1 x.2,jK q with
  |some f,some l=>some (f::l)
  |_,_=>none
theorem pu:∀{s:List Tx}{l:List (Int×Nat)},jK s=some l->l.length=s.length
 |[],l,h=>by grind[jK]
 | x::q,l,h=>by
  simp only[jK]at h;cases h1:rdF x.1 x.2 with
  |none=>grind
  | some f=>
   cases h2:jK q with
   |none=>grind
   | some m=>
    rw[h1,h2]at h;simp only[Z9]at h;subst h;simp[pu h2]
def lsA:Acc:=⟨2,0,3,.none⟩
def lsH(L:Nat)(cells:LdQ):Hp:=[nnQ,nnQ,lsA.b L cells]
theorem tD{s:List Tx}(hN:s.length<1000000000)(k:KL):∀(q a:List Tx)(d:List (Int×Nat)),a++q=s->d.length=a.length ->
  (∀l,jK q=some l->k (.exit 0) [lsA.v s.length ((d++l).flatMap frC)] (lsH s.length ((d++l).flatMap frC)))->(jK q=none->∀h,k .ret [.d nPQ,B false] h) ->
  lp (iR (CX Y) (qm aK s) (I s.length)) [0,1] [nnQ,nnQ,nnQ] [lsA.v a.length (d.flatMap frC),I a.length] (lsH a.length (d.flatMap frC)) k
 | []=>by
  intro a d ha hd h0 h1;simp at ha;subst ha;refine aj ?_;simp(disch:=try exact ag)[iR];simpa using h0 [] rfl
 | x::q=>by
  intro a d ha hd h0 h1;have hal:a.length<s.length:=by subst ha;simp
  have hx:nth ([],[]) s a.length=x:=by subst ha;simp
  have e1:=fun h:Hp=>oU aK bv s h (k:=.i64) (i:=(a.length:Int)) aa aa
  have e2:=fun h:Hp=>ot aK bv ([],[]) s h hal
  simp only[hx,Int.toNat_natCast]at e1 e2;refine aj ?_;simp(disch:=try exact ag)[iR,e1,e2,aK,lsH];refine cd (u9 x.1 x.2) ?_;cases hf:rdF x.1 x.2 with
  | none=>
   have:=h1 (by simp[jK,hf]);simp(disch:=try exact ag)[wW,jF,frL];exact this _
  | some f=>
   have ih:=tD hN k q (a++[x]) (d++[f]) (by simpa using ha) (by simp[hd]) (fun l hl=>by simpa using h0 (f::l) (by simp[jK,hf,hl])) (fun hl=>h1 (by simp[jK,hf,hl]))
   have hli:∀H:Hp,cO 1 [D.bool false,nPQ,nPQ] [(0,V.agg [V.d (D.bool (decide (f.fst<0))),V.d (aaI f.fst.natAbs),V.d (aaI f.snd)])] H=some (frC f,H):=fun H=>by
    simp[cO,jv,iH,toD,frC]
   simp(disch:=try exact ag)[wW,jF,frL];rw[hli];simp(disch:=try exact ag);have hfl:=d6 frC nJ d;refine hO lsA (k:=1) (cs:=frC f) aa (by rfl) (by rw[hfl,hd];rfl) rfl rfl af aa (by simp[lsA]) ?_;simp(disch:=try exact ag)[clean,dT,kH,qk,dw,au,offB,lsA]
   simpa[lsA,lsH,Acc.v,Acc.b,kH,dw,show Nat.beq 0 2=false from rfl,show Nat.beq 1 2=false from rfl]using ih
theorem Bm{s:List Tx}(hN:s.length<1000000000):CP Y F.iu [qm aK s] (match jK s with|some l=>.tup [qm frC l,B true]|none=>.tup [.d (.sl 0 []),B false]):=by
 refine sj ?_;simp(disch:=try exact ag)[iu];refine lo (tD hN _ s [] [] rfl rfl (fun l hl=>?_) (fun hl h=>?_))
 .have hll:=pu hl;rw[hl];simp(disch:=try exact ag);have hfl:=d6 frC nJ l;obtain⟨h',h1,_⟩:=uR lsA (L:=s.length) (cells:=l.flatMap frC) (h:=lsH s.length (l.flatMap frC)) rfl (by rw[hfl,hll];rfl);exact⟨h',by simp[bJ,aS,h1,qm,hll]⟩
 .rw[hl];simp(disch:=try exact ag);exact ju (by simp[bJ,aS])
def Tg(n:Nat):Nat->Nat->Bool
 |0,_=>true
 |r+1,d=>if d*d<=n then(if n%d=0 then false else Tg n r (d+1))else true
theorem ady:∀n:Fin 98,2<=n.val->Tg n.val 10 2=ta n.val:=bb
theorem Po(n:Nat)(hn:n<=97)(k:KL):∀(r d:Nat),2<=d->d+r=12->(Tg n r d=true->k (.exit 0) [] [])->(Tg n r d=false->k .ret [B false] []) ->
  lp (jk (CX Y) (I n)) [] [] [I d] [] k
 | 0,d,hd,hr,h0,h1=>by
  have:d=12:=aa;subst this;have g:¬((12:Nat):Int)*((12:Nat):Int)<=(n:Int):=aa;have g2:¬(144:Int)<=(n:Int):=aa;refine aj ?_;simp[jk,g,g2];exact h0 rfl
 | r+1,d,hd,hr,h0,h1=>by
  have ih:=Po n hn k r (d+1) aa aa;have hd12:d<=12:=aa;obtain⟨s,hs⟩:=mnQ (d*d);have hsb:s<=144:=by rw[<-hs];exact Zn hd12 hd12
  have e1:(d:Int)*(d:Int)=(s:Int):=by rw[<-hs];simp
  rw[Tg,hs]at h0 h1;refine aj ?_;by_cases g:s<=n
  .have g':(s:Int)<=(n:Int):=aa;rw[if_pos g]at h0 h1;have hd0:¬((d:Int)=0):=aa;have hd0':¬(d=0):=aa;obtain⟨m,hm⟩:=mnQ (n%d);have e2:(n:Int)%(d:Int)=(m:Int):=by rw[<-hm];simp
   rw[hm]at h0 h1;by_cases h:m=0
   .have h':(m:Int)=0:=aa;rw[if_pos h]at h1;simp(disch:=try exact ag)[jk,e1,g',hd0,hd0',Zx,e2,h',h];exact h1 rfl
   .have h':¬(m:Int)=0:=aa;rw[if_neg h]at h0 h1;have:=ih h0 h1;simp(disch:=try exact ag)[jk,e1,g',hd0,hd0',Zx,e2,h',h];simpa using this
  .have g':¬(s:Int)<=(n:Int):=aa;rw[if_neg g]at h0;simp(disch:=try exact ag)[jk,e1,g'];exact h0 rfl
theorem L4(n:Int):CP Y F.jc [I n] (B (ta n)):=by
 refine CQ ?_;by_cases h1:n<2
 .simp[jc,h1]<;>exact nN (by simp[ta];omega)
 by_cases h2:97<n
 .simp[jc,h1,h2]<;>exact nN (by simp[ta];omega)
 obtain⟨m,rfl⟩:∃m:Nat,n=m:=⟨n.toNat,aa⟩;have ha:=ady ⟨m,aa⟩ bK;simp only at ha;simp[jc,h1,h2];refine lo (Po m aa _ 10 2 aa rfl (fun e=>?_) (fun e=>?_))
 .simp only[iP];exact nN (by rw[<-ha,e])
 .simp only[AL,DL];exact nN (by rw[<-ha,e])
def By(prev:Option Int)(x:Int):Bool:=match prev with|some y=>decide (y<x)|none=>true
def yq:Option Int->LiQ->Int
 |_,[]=>0
 |prev,x::q=>cond (ta x) (cond (By prev x) (yq (some x) q) 6) 25
def pcB(p:LiQ):Int:=if p.length=0 then 13 else if 6<p.length then 4 else yq none p
theorem xZ(ha:ndg a<1000000)(hb:ndg b<1000000):CP Y F.ig [S (ai a),S (ai b)] (S (ai (a*b))):=by
 refine GJ ?_;have la:=kZ a;have lb:=kZ b;have bo:=DU a b;by_cases h18:(ndg a:Int)+(ndg b:Int)<=18
 .rw[if_pos ⟨aa,aa⟩]at bo
  have hm:a*b<1000000000000000000:=by
   have h1:=cY a;have h2:=cY b;have h3:a*b<10^ndg a*10^ndg b:=Yn h1 h2;rw[<-Y6]at h3;have h4:10^(ndg a+ndg b)<=10^18:=Z4 ae aa;exact Z1 h3 h4
  obtain⟨m,hmm⟩:=mnQ (a*b);have e1:(a:Int)*(b:Int)=(m:Int):=by rw[<-hmm];simp
  rw[hmm]at hm ⊢;simp(disch:=try exact ag)[ig,la,lb,h18];refine cd bo ?_;simp(disch:=try exact ag)[e1];refine cd (yU (n:=m) aa) ?_;exact fD rfl
 .obtain⟨ca,hca⟩:=nmQ (ndg a/9+1);obtain⟨cb,hcb⟩:=nmQ (ndg b/9+1);have ltA:a<Z^ca:=Z1 (cY a) (by rw[A7];exact Z4 ae aa);have ltB:b<Z^cb:=Z1 (cY b) (by rw[A7];exact Z4 ae aa)
  have cA:=tv (h:=[nnQ,nnQ,nnQ]) rfl (n:=a) aa hca;have lA:(dk ca a).length=ca:=cT ..;have lB:(dk cb b).length=cb:=cT ..;have cB:=tv (h:=[(1,.data 1 ((dk ca a).map u6) true false),nnQ,nnQ]) rfl (n:=b) aa hcb;simp(disch:=try exact ag)[ig,la,lb,h18];refine jC (fe (e:=0) (b:=.none) cA rfl ?_)
  rw[Yz,lA];simp;refine jC (fe (e:=0) (b:=.none) cB rfl ?_);rw[Yz,lB];simp;have rA:=DX (h:=[(1,.data 1 ((dk ca a).map u6) true false),(1,.data 1 ((dk cb b).map u6) true false),nnQ]) (s:=0) (e:=1) (len:=(dig Z a).length) (cap:=ca) (ex:=true) (fr:=false) rfl lA.symm (iL ltA)
  have rB:=DX (h:=[(1,.data 1 ((dk ca a).map u6) true false),(1,.data 1 ((dk cb b).map u6) true false),nnQ]) (s:=1) (e:=1) (len:=(dig Z b).length) (cap:=cb) (ex:=true) (fr:=false) rfl lB.symm (iL ltB);rw[nK ltA]at rA;rw[nK ltB]at rB;have dA:=iL ltA;have dB:=iL ltB;obtain⟨N,hN⟩:=nmQ ((dig Z a).length+(dig Z b).length)
  have tp:=Bg (h:=[(1,.data 1 ((dk ca a).map u6) true false),(1,.data 1 ((dk cb b).map u6) true false),nnQ]) rfl rA (cJ ax a) rB (cJ ax b) aa aa hN
  have ltM:a*b<Z^N:=by
   rw[hN,Y6];have h1:=jE bB (cJ ax a);have h2:=jE bB (cJ ax b);rw[iS ax]at h1 h2;exact Yn h1 h2
  rw[iS ax,iS ax]at tp;have lM:(dk N (a*b)).length=N:=cT ..;refine jC (fe (e:=0) (b:=.none) tp rfl ?_);rw[Yz,lM];simp
  have sM:=wL (h:=[(1,.data 1 ((dk ca a).map u6) true false),(1,.data 1 ((dk cb b).map u6) true false),(1,.data 1 ((dk N (a*b)).map u6) true false)]) (s:=2) rfl lM.symm (len:=(dig Z (a*b)).length) (cap:=N) (iL ltM) (Z7 _);rw[nK ltM]at sM;simp only[List.set_cons_zero,List.set_cons_succ]at sM
  have sMs:aS [(1,.data 1 ((dk ca a).map u6) true false),(1,.data 1 ((dk cb b).map u6) true false),(1,.data 1 ((dk N (a*b)).map u6) true false)] [.ref 2 1 0 (dig Z (a*b)).length N N]=some ([pcs (a*b)],[(1,.data 1 ((dk ca a).map u6) true false),(1,.data 1 ((dk cb b).map u6) true false),(1,.data 1 ((dk N (a*b)).map u6) true true)]):=by
   simp only[aS,sM];rfl
  refine cdz sMs (uU (n:=a*b) (by have:=iL ltM;omega)) ?_;rw[show fN (S (ai (a*b)))=true from rfl,if_pos rfl];exact fD rfl
theorem kN(p n:Int):CP Y F.cj [I p,I n] (I (cond (ta p) (if n<0∨1000<n then 3 else 0) 25)):=by
 refine lQ ?_;simp(disch:=try exact ag)[cj];refine cd (L4 p) ?_;cases hp:ta p with
 |false=>simp(disch:=try exact ag)<;>exact cx rfl
 | true=>
  by_cases h1:n<0
  .simp(disch:=try exact ag)[h1]<;>exact cx (by simp[h1])
  .by_cases h2:1000<n
   .simp(disch:=try exact ag)[h1,h2]<;>exact cx (by simp[h1,h2])
   .simp(disch:=try exact ag)[h1,h2]<;>exact cx (by simp[h1,h2])
theorem se{B:Nat}{a b:LnQ}(ha:aH B a)(hb:aH B b):aH B (a++b):=by
 intro x hx;rcases W4.1 hx with h|h
 .exact ha x h
 .exact hb x h
theorem qg(k:Nat):aH Z (List.replicate k 0):=by intro x hx;rw[List.eq_of_mem_replicate hx];exact bB
theorem mE(k:Nat)(l:LnQ):val Z (l++List.replicate k 0)=val Z l:=by
 rw[val_append]
 have:val Z (List.replicate k 0)=0:=by
  induction k with
  |zero=>rfl
  |succ k ih=>rw[List.replicate_succ];exact(congrArg (fun x=>0+Z*x) ih).trans (by rw[Nat.mul_zero])
 rw[this,Nat.mul_zero,Nat.add_zero]
theorem aeC{q ce B:Nat}(hB:2<=B)(h3:x+q*B*ce=a+b)(l1:a<q)(l2:b<q):x=a+b:=by
 rcases Zd ce with h|h
 .subst h;rw[Nat.mul_zero,Nat.add_zero]at h3;exact h3
 .have h1:=Zw (q*B) h;have h2:=Zw q hB;omega
theorem YL{D:LnQ}(hA:A.length=n)(hD:D.length=n)(sA:aH Z A)(sD:aH Z D)(va:val Z A=a)(vb:val Z D=b):
  val Z (rF 0 D (D.length+1) 0 0 (A++[0]))=a+b∧aH Z (rF 0 D (D.length+1) 0 0 (A++[0]))∧(rF 0 D (D.length+1) 0 0 (A++[0])).length=n+1:=by
 have sA0:aH Z (A++[0]):=se sA (qg 1);obtain⟨h1,h2,ce,h3⟩:=FT (at_:=0) sD (D.length+1) 0 0 (A++[0]) bK aa sA0;have e1:D.drop (0+(D.length+1))=[]:=Zb aa;have e2:val Z (A++[0])=a:=by rw[show([0]:LnQ)=List.replicate 1 0 from rfl,mE,va]
 have e0:val Z ([]:LnQ)=0:=rfl;rw[e1,e2,e0]at h3;have l1:=jE bB sA;have l2:=jE bB sD;rw[va,hA]at l1;rw[vb,hD]at l2;have hl:(rF 0 D (D.length+1) 0 0 (A++[0])).length=n+1:=by rw[h1.1];simp[hA]
 refine⟨?_,h2,hl⟩;rw[hD]at h3 ⊢;have h2Z:=ax;generalize val Z (rF 0 D (n+1) 0 0 (A++[0]))=x at *;simp only[Zj,vb,Nat.add_zero,Zp,Nat.pow_zero,Xr,Nat.pow_succ]at h3;exact aeC h2Z h3 l1 l2
theorem aak(k:Nat):jv k [D.int .u64 0]=(List.replicate k 0).map u6:=by
 induction k with
 |zero=>rfl
 |succ k ih=>rw[List.replicate_succ,Z2,<-ih];rfl
theorem Qj(h:n<18446744073709551616):CP Y F.ku [.d (.int .u64 n)] (I (aY n)):=by refine CS ?_;simp[ku];refine cd (An h) ?_;simp<;>exact cx rfl
theorem xt{h:Hp}(hu:(h.all fun x=>bW h.length x.2)=true)(hl:0<l.length)(hb:l.length<1000000000000):CI Y F.ac [lst u6 l] h (.new 1 (l.map u6) false l.length l.length) h:=by
 refine ef ?_;simp(disch:=try exact ag)[ac]
 have hli:cO 0 [D.int IntKind.u64 0] [] (h++[(0,Bk.none),(0,Bk.none)])=some ([],h++[(0,Bk.none),(0,Bk.none)]):=by
  simp[cO,jv,iH]
 rw[hli];simp(disch:=try exact ag);refine x8 (z:=[]) ae hl af aa ?_;simp(disch:=try exact ag);refine⟨af,?_,.inr (.inr (.inl ⟨h.length+1,1,l.length,l.length,1,l.map u6,false,af,aa,by simp[aw],rfl⟩))⟩;simp only[Yp,hu,Zg]
 try simp[bW]
abbrev UN(n:Nat):V:=.d (.int .u64 (n:Int))
theorem YR(h:a<18446744073709551616):biI .and (UN a) (UN 4294967295)=some (UN (a%4294967296)):=by
 have ea:(BitVec.ofInt 64 (a:Int)).toNat=a:=by simp[BitVec.toNat_ofInt];omega
 have eb:(BitVec.ofInt 64 ((4294967295:Nat):Int)).toNat=4294967295:=by rfl
 have hm:a&&&4294967295=a%4294967296:=Nat.and_two_pow_sub_one_eq_mod a 32;have e:(BitVec.ofInt 64 (a:Int)&&&BitVec.ofInt 64 ((4294967295:Nat):Int)).toNat=a%4294967296:=by rw[BitVec.toNat_and,ea,eb,hm]
 show mr (some (Value.int .u64 (IntKind.wrap .u64 ((BitVec.ofInt 64 (a:Int)&&&BitVec.ofInt 64 ((4294967295:Nat):Int)).toNat:Int))))=_
 rw[e,wrap_u64 aa];rfl
theorem ah8(ha:a<18446744073709551616)(hb:b<18446744073709551616):biI .or (UN a) (UN b)=some (UN (a|||b)):=by
 have h:a|||b<2^64:=Nat.or_lt_two_pow (n:=64) ha hb;have ea:(BitVec.ofInt 64 (a:Int)).toNat=a:=by simp[BitVec.toNat_ofInt];omega
 have eb:(BitVec.ofInt 64 (b:Int)).toNat=b:=by simp[BitVec.toNat_ofInt];omega
 have e:(BitVec.ofInt 64 (a:Int)|||BitVec.ofInt 64 (b:Int)).toNat=a|||b:=by rw[BitVec.toNat_or,ea,eb]
 show mr (some (Value.int .u64 (IntKind.wrap .u64 ((BitVec.ofInt 64 (a:Int)|||BitVec.ofInt 64 (b:Int)).toNat:Int))))=_
 rw[e,wrap_u64 aa];rfl
theorem K0(a:Nat):biI .shr (UN a) (UN 32)=some (UN (a/4294967296)):=by
 have:=Ew (k:=.u64) (l:=.u64) (a:=a) (b:=32) ae
 rwa [show(2:Nat)^32=4294967296 from rfl]at this
theorem UW(a b:Nat):biI .mul (UN a) (UN b)=some (UN (a*b%18446744073709551616)):=by
 have:IntKind.wrap .u64 ((a:Int)*b)=((a*b%18446744073709551616:Nat):Int):=by
  rw[<-Int.natCast_mul];unfold IntKind.wrap;simp[IntKind.bits,IntKind.signed]
 rw[vJ,this]
theorem Oe(x0 x1 y0 y1 B:Nat)(hB:0<B):(x1*B+x0)*(y1*B+y0)/(B*B)=x1*y1+(x1*y0+x0*y0/B)/B+((x1*y0+x0*y0/B)%B+x0*y1)/B:=by
 have e:(x1*B+x0)*(y1*B+y0)=x0*y0+B*(x1*y0+x0*y1+B*(x1*y1)):=by
  simp only[Nat.add_mul,Nat.mul_add];have e1:x1*B*(y1*B)=B*(B*(x1*y1)):=by simp only[Zt,Y1]
  have e2:x1*B*y0=B*(x1*y0):=by simp only[Zt,Y1]
  have e3:x0*(y1*B)=B*(x0*y1):=by simp only[Zt,Y1]
  rw[e1,e2,e3];omega
 rw[e,<-Xg,Yr _ _ hB];generalize x0*y0/B=c;have e2:c+(x1*y0+x0*y1+B*(x1*y1))=(x1*y0+c+x0*y1)+B*(x1*y1):=aa;rw[e2,Yr _ _ hB];generalize x1*y0+c=t;have e3:t+x0*y1=(t%B+x0*y1)+B*(t/B):=by have:=Xk t B;omega
 rw[e3,Yr _ _ hB];omega
theorem UY(ha:a<18446744073709551616)(hb:b<18446744073709551616):CP Y F.gC [UN a,UN b] (.tup [UN (a*b/18446744073709551616),UN (a*b%18446744073709551616)]):=by
 refine Ag ?_;obtain⟨x0,hx0⟩:=nmQ (a%4294967296);obtain⟨x1,hx1⟩:=nmQ (a/4294967296);obtain⟨y0,hy0⟩:=nmQ (b%4294967296);obtain⟨y1,hy1⟩:=nmQ (b/4294967296);have bx0:x0<=4294967295:=aa;have bx1:x1<=4294967295:=aa;have by0:y0<=4294967295:=aa;have by1:y1<=4294967295:=aa
 have m00:x0*y0<=4294967295*4294967295:=Zn bx0 by0;have m10:x1*y0<=4294967295*4294967295:=Zn bx1 by0;have m01:x0*y1<=4294967295*4294967295:=Zn bx0 by1;have m11:x1*y1<=4294967295*4294967295:=Zn bx1 by1;have e:=Oe x0 x1 y0 y1 4294967296 ae;rw[show x1*4294967296+x0=a by omega,show y1*4294967296+y0=b by omega]at e
 have hab:a*b/(4294967296*4294967296)<=18446744073709551615:=by
  have:a*b<=18446744073709551615*18446744073709551615:=Zn aa aa;omega
 have q1:=Dy (a:=x0) (b:=y0) aa;have q2:=Dy (a:=x1) (b:=y0) aa;have q3:=yd (a:=x1*y0) (b:=x0*y0/4294967296) aa;have q4:=YR (a:=x1*y0+x0*y0/4294967296) aa;have q5:=Dy (a:=x0) (b:=y1) aa;have q6:=yd (a:=(x1*y0+x0*y0/4294967296)%4294967296) (b:=x0*y1) aa;have q7:=Dy (a:=x1) (b:=y1) aa
 have q8:=yd (a:=x1*y1) (b:=(x1*y0+x0*y0/4294967296)/4294967296) aa;have q9:=yd (a:=x1*y1+(x1*y0+x0*y0/4294967296)/4294967296) (b:=((x1*y0+x0*y0/4294967296)%4294967296+x0*y1)/4294967296) aa;have r1:=YR ha;have r2:=YR hb;have r3:=K0 a;have r4:=K0 b;rw[<-hx0]at r1;rw[<-hy0]at r2;rw[<-hx1]at r3;rw[<-hy1]at r4
 have r1':biI .and (UN a) (.d (.int .u64 4294967295))=some (UN x0):=r1;have r2':biI .and (UN b) (.d (.int .u64 4294967295))=some (UN y0):=r2;have r3':biI .shr (UN a) (.d (.int .u64 32))=some (UN x1):=r3;have r4':biI .shr (UN b) (.d (.int .u64 32))=some (UN y1):=r4;have s1:biI .shr (UN (x0*y0)) (.d (.int .u64 32))=some (UN (x0*y0/4294967296)):=K0 _
 have q4':biI .and (UN (x1*y0+x0*y0/4294967296)) (.d (.int .u64 4294967295))=some (UN ((x1*y0+x0*y0/4294967296)%4294967296)):=q4;have s2:biI .shr (UN (x1*y0+x0*y0/4294967296)) (.d (.int .u64 32))=some (UN ((x1*y0+x0*y0/4294967296)/4294967296)):=K0 _
 have s3:biI .shr (UN ((x1*y0+x0*y0/4294967296)%4294967296+x0*y1)) (.d (.int .u64 32))=some (UN (((x1*y0+x0*y0/4294967296)%4294967296+x0*y1)/4294967296)):=K0 _;have mw:=UW a b;simp only[gC,r1',r2',r3',r4',AW,q1,q2,s1,q3,q4',s2,q5,q6,q7,q8,s3,q9,mw];rw[<-e];exact aG rfl rfl
def E62:Nat:=4611686018427387904
def E63:Nat:=9223372036854775808
def vB:Nat->Nat->Nat->Nat->Option Nat
 |0,_,_,out=>some out
 | r+1,low,high,out=>
  cond (Nat.ble E63 (low*low/E62)) (vB r (low*low/E62/2) ((high*high/E62+1)/2+1) (out*2+1))
   (cond (Nat.ble E63 (high*high/E62+1)) none (vB r (low*low/E62) (high*high/E62+1) (out*2)))
def AI(p:Nat):Option Nat:=vB 26 (p*2^(62-(aY p-1))) (p*2^(62-(aY p-1))) (aY p-1)
def W6:Nat:=2^64
theorem gL:W6=18446744073709551616:=rfl
theorem eV:0<W6:=ae
def wds:Nat->Nat->LnQ
 |0,_=>[]
 |n+1,v=>v%W6::wds n (v/W6)
theorem aM:∀(n v:Nat),(wds n v).length=n
 |0,_=>rfl
 |n+1,v=>by simp[wds,aM n]
theorem iJ:∀{n v i:Nat},i<n->nth 0 (wds n v) i=v/W6^i%W6
 |n+1,v,0,_=>by simp[wds,nth]
 | n+1,v,i+1,h=>by
  have:=iJ (n:=n) (v:=v/W6) (i:=i) aa;rw[Nat.pow_succ,Zt,<-Xg,<-this];rfl
theorem rc:∀(n v:Nat),wds (n+1) v=wds n v++[v/W6^n%W6]
 |0,v=>by simp[wds]
 | n+1,v=>by
  rw[wds,rc n,wds];simp[Nat.pow_succ,Zt,Xg]
theorem xx(v:Nat):v%W6<18446744073709551616:=Y7 _ eV
theorem uK(w:Nat):2^(64*w)=W6^w:=Xc 2 64 w
theorem wT(A:Nat)(hr:r<64):A/2^r%W6=A%W6/2^r+A/W6%W6*2^(64-r)%W6:=by
 have e:W6=2^r*2^(64-r):=by rw[<-Y6];show 2^64=_;congr 1;omega
 have hS:=Zq r;have hT:=Zq (64-r);rw[e];generalize 2^r=S at *;generalize 2^(64-r)=T at *;have hW:=Yx hS hT;obtain⟨q,x,hA,hx⟩:∃q x,A=S*T*q+x∧x<S*T:=⟨A/(S*T),A%(S*T),(Yf ..).symm,Y7 _ hW⟩;obtain⟨u,t,hq,ht⟩:∃u t,q=S*u+t∧t<S:=⟨q/S,q%S,(Yf ..).symm,Y7 _ hS⟩
 have e1:A/(S*T)=q:=by rw[hA,Nat.mul_add_div hW,Wr hx,Nat.add_zero]
 have e2:A%(S*T)=x:=by rw[hA,Wm,Yk hx]
 have e3:A/S=T*q+x/S:=by rw[hA,Nat.mul_assoc,Nat.mul_add_div hS]
 have hxS:x/S<T:=Wl hx
 have hTt:T*t+T<=S*T:=by
  have:=Zw T (show t+1<=S from ht);rw[Nat.mul_add,Yc]at this;rw[Zt S T];exact this
 have e4:q*T%(S*T)=T*t:=by
  rw[Zt S T,Zt q T,Xe,hq,Wm,Yk ht]
 have e5:q%(S*T)*T%(S*T)=T*t:=by rw[Nat.mod_mul_mod,e4]
 have e6:(T*q+x/S)%(S*T)=T*t+x/S:=by
  rw[hq,show T*(S*u+t)+x/S=S*T*u+(T*t+x/S) by rw[Nat.mul_add,Zt S T,Nat.mul_assoc];omega,Wm,Yk aa]
 rw[e3,e6,e2,e1,e5,Xd]
def eH(o:LnQ):Hp:=[(1,.data 1 (o.map u6) true false)]
theorem eI(hn:o.length=n)(hi:i<n):ixV (eH o) 1 (.ref 0 1 0 n n n) (.d (.int .i64 (i:Int)))=some (.ptr 0 1 i n):=ixB rfl hn hi _
theorem eL(hn:o.length=n)(hi:i<n):ld1 (eH o) (.ptr 0 1 i n)=some (UN (nth 0 o i)):=ldB 0 (f:=u6) rfl hn hi
theorem eS(hn:o.length=n)(hi:i<n):st (eH o) 1 (.ptr 0 1 i n) (UN x)=some (eH (o.set i x)):=stB (f:=u6) rfl hn hi (x:=x) rfl
theorem lc(hi:i<l.length)(H:Hp):ixV H 1 (lst u6 l) (I i)=some (.dptr (l.map u6) i)∧ld1 H (.dptr (l.map u6) i)=some (UN (nth 0 l i)):=
 ⟨aJ u6 l H rfl hi,aC u6 0 l H hi⟩
theorem zY{n v w r m:Nat}(hv:v<W6^n)(hm:n=w+m)(hr:r<64)(hN:n<1000000000)(K:KL)(h0:Hp)(hh:h0.length=1):∀(k i:Nat),i+k=m->K (.exit 0) [] (eH (wds m (v/2^(64*w+r)))) ->
  lp (cP (CX Y) (lst u6 (wds n v)) (I w) (I r) (.ref 0 1 0 m m m) (I m)) [] h0 [I i] (eH (wds i (v/2^(64*w+r))++List.replicate k 0)) K
 | 0,i,hi,hK=>by
  have e:i=m:=aa;subst e;refine aj ?_;simp[cP];exact hK
 | k+1,i,hi,hK=>by
  have ih:=zY hv hm hr hN K h0 hh k (i+1) aa hK;obtain⟨V,hV⟩:=nmQ (v/2^(64*w+r));rw[<-hV]at ih ⊢
  have hA:V/W6^i=v/W6^(i+w)/2^r:=by
   rw[hV,Y6 2,uK,Xg,Xg,Y6 W6];congr 1
   ac_rfl
  have hT:=wT (v/W6^(i+w)) hr;rw[<-hA,Xg,<-Nat.pow_succ]at hT;have hlen:(wds n v).length=n:=aM n v;obtain⟨x,hx⟩:=nmQ (v/W6^(i+w)%W6);have hxl:=xx (v/W6^(i+w));rw[<-hx]at hT hxl;have hzl:x/2^r<18446744073709551616:=Zk (Yu _ _) hxl;obtain⟨z,hz⟩:=nmQ (x/2^r);rw[<-hz]at hT hzl
  have i1:=fun H=>(lc (l:=wds n v) (i:=i+w) aa H).1
  have i2:=fun H=>(lc (l:=wds n v) (i:=i+w) aa H).2
  simp only[iJ (show i+w<n by omega),<-hx]at i2;have ei:((i+w:Nat):Int)=(i:Int)+w:=af;simp only[ei]at i1;have wl:∀y,(wds i V++y::List.replicate k 0).length=m:=fun y=>by simp[aM];omega
  have bS:∀y z,(wds i V++y::List.replicate k 0).set i z=wds i V++z::List.replicate k 0:=fun y z=>by
   rw[X3 _ _ (by rw[aM];exact Z7 _),aM,Nat.sub_self];rfl
  have hnth:∀y,nth 0 (wds i V++y::List.replicate k 0) i=y:=fun y=>by
   have:=bM 0 (wds i V) y (List.replicate k 0)
   rwa [aM]at this
  have sI:=fun y=>eI (wl y) (i:=i) aa
  have sL:=fun y=>eL (wl y) (i:=i) aa
  have sS:=fun y z=>eS (x:=z) (wl y) (i:=i) aa
  simp only[bS,hnth]at sL sS;have sh:biI .shr (UN x) (I r)=some (UN z):=by rw[hz];exact Ew (by show r<=64;omega)
  have fin:∀y,y=V/W6^i%W6->wds i V++y::List.replicate k 0=wds (i+1) V++List.replicate k 0:=fun y hy=>by rw[rc,hy,List.append_assoc];rfl
  have e2:((i+1:Nat):Int)=(i:Int)+1:=af;rw[e2]at ih;have gi:(i:Int)<m:=aa;have ll:bj (lst u6 (wds n v))=some (I n):=by rw[show bj (lst u6 (wds n v))=some (I (wds n v).length)from rfl,hlen]
  have hre:∀y,au [] 0 h0 (eH (wds i V++y::List.replicate k 0))=eH (wds i V++y::List.replicate k 0):=fun y=>aX 0 h0 _ (by rw[hh];rfl)
  rw[List.replicate_succ];by_cases hc:0<r∧i+w+1<n
  .obtain⟨r0,hn⟩:=hc;obtain⟨y,hy⟩:=nmQ (v/W6^(i+w+1)%W6);have hyl:=xx (v/W6^(i+w+1));rw[<-hy]at hT hyl;have j1:=fun H=>(lc (l:=wds n v) (i:=i+w+1) aa H).1
   have j2:=fun H=>(lc (l:=wds n v) (i:=i+w+1) aa H).2
   simp only[iJ (show i+w+1<n by omega),<-hy]at j2;have ej:((i+w+1:Nat):Int)=(i:Int)+w+1:=af;simp only[ej]at j1;obtain⟨u,hu⟩:=nmQ (y*2^(64-r)%W6);have hul:u<18446744073709551616:=by rw[hu];exact xx _
   rw[<-hu]at hT
   have sl:biI .shl (UN y) (I ((64:Int)-r))=some (UN u):=by
    rw[agM aa aa,GY,hu];congr 4;rw[show((64:Int)-r).toNat=64-r by omega,gL];simp
   have ob:biI .or (UN z) (UN u)=some (UN (z+u)):=by
    have e:W6=2^r*2^(64-r):=by rw[<-Y6];show 2^64=_;congr 1;omega
    have hz2:z<2^(64-r):=by
     rw[hz];refine Wl ?_;rw[<-e];exact hxl
    rw[ah8 hzl hul,hu,e,Zt y,Zt (2^r),Xe,w7 hz2]
   have g1:(0:Int)<r:=aa;have g2:(i:Int)+w+1<n:=aa;refine aj ?_;simp(disch:=try exact ag)[cP,gi];refine aT ?_;simp(disch:=try exact ag)[i1,i2,sh,sI,sS,sL,ll,g1,g2];refine aT ?_;simp(disch:=try exact ag)[j1,j2,sl,ob,sI,sS,sL,hre];rw[fin _ hT.symm];exact ih
  ·have hz0:z=V/W6^i%W6:=by
    rw[hT];by_cases r0:r=0
    .subst r0;rw[show v/W6^(i+w+1)%W6*2^(64-0)%W6=0 from Nat.mul_mod_left _ _];rfl
    .have:v/W6^(i+w+1)=0:=Wr (Z1 hv (Z4 eV aa));rw[this];simp
   refine aj ?_;simp(disch:=try exact ag)[cP,gi];refine aT ?_;by_cases r0:r=0
   .subst r0;have hzx:z=x:=by simpa using hz
    subst hzx;simp(disch:=try exact ag)[i1,i2,sh,sI,sS,sL,ll];refine aT ?_;simp(disch:=try exact ag)[hre];rw[fin _ hz0];exact ih
   .have g1:(0:Int)<r:=aa;have g2:¬(i:Int)+w+1<n:=aa;simp(disch:=try exact ag)[i1,i2,sh,sI,sS,sL,ll,g1,g2];refine aT ?_;simp(disch:=try exact ag)[hre];rw[fin _ hz0];exact ih
theorem lO(hv:v<W6^n)(hb:b/64<n)(hN:n<1000000000)(hb2:b<1000000000):CP Y F.aO [lst u6 (wds n v),I b] (lst u6 (wds (n-b/64) (v/2^b))):=by
 refine kR ?_;obtain⟨w,hw⟩:=mnQ (b/64);obtain⟨r,hr⟩:=mnQ (b%64);rw[hw]at hb ⊢;obtain⟨m,hm⟩:∃m,n=w+m:=⟨n-w,aa⟩;have m0:0<m:=aa;have e1:n-w=m:=aa;have e2:64*w+r=b:=aa;have l0:=fun K h=>zY hv hm (r:=r) aa hN K (eH (wds 0 (v/2^b)++List.replicate m 0)) rfl m 0 aa h
 rw[e2]at l0;rw[e1];have q1:(b:Int).tdiv 64=(w:Int):=by rw[Zs aa];omega
 have q2:(b:Int).tmod 64=(r:Int):=by rw[Zx aa];omega
 have q3:(n:Int)-(w:Int)=(m:Int):=aa
 have mx:mxI true [I m,I 0]=some (I m):=by
  have g:¬(m:Int)<0:=aa;simp[mxI,mx2]
  try omega
 simp(disch:=try exact ag)[aO,q1,q2,q3,aM,mx];have e0:List.replicate m (D.int IntKind.u64 0)=(wds 0 (v/2^b)++List.replicate m 0).map u6:=by simp[u6,wds]
 rw[e0];refine lo (l0 _ ?_);refine⟨[(1,.data 1 ((wds m (v/2^b)).map u6) true true)],?_⟩;simp[bJ,eH,toD,aw,lst,aM];exact Z6 (by simp[aM])
theorem BZ{m V:Nat}(hV:V<W6^m)(hN:m<1000000000)(K:KL)(H:Hp):∀(k i:Nat),i+k=m->(V/W6^i=0->K (.exit 0) [] H)->(V/W6^i≠0->K .ret [B true] H) ->
  lp (b5 (CX Y) (lst u6 (wds m V)) (I m)) [] H [I i] H K
 | 0,i,hi,h0,_=>by
  have e:i=m:=aa;subst e;refine aj ?_;simp[b5];exact h0 (Wr hV)
 | k+1,i,hi,h0,h1=>by
  have i1:=(lc (l:=wds m V) (i:=i) (by rw[aM];omega) H).1;have i2:=(lc (l:=wds m V) (i:=i) (by rw[aM];omega) H).2;rw[iJ aa]at i2;have gi:(i:Int)<m:=aa;have e2:((i+1:Nat):Int)=(i:Int)+1:=af;have es:V/W6^(i+1)=V/W6^i/W6:=by rw[Nat.pow_succ,Xg]
  have hre:au [] 0 H H=H:=aX 0 H H rfl;generalize V/W6^i=A at *;refine aj ?_;by_cases h:A%W6=0
  .have ih:=BZ hV hN K H k (i+1) aa (fun e=>h0 (by rw[es]at e;have:=Yf A W6;rw[e,h]at this;omega)) (fun e=>h1 (fun a=>e (by rw[es,a];exact Nat.zero_div _)));rw[e2]at ih;rw[h]at i2;simp(disch:=try exact ag)[b5,gi,i1,i2,hre];exact ih
  .have hA:A≠0:=fun e=>h (by rw[e];rfl)
   obtain⟨x,hx⟩:=mnQ (A%W6);rw[hx]at h i2;simp(disch:=try exact ag)[b5,gi,i1,i2,h];exact h1 hA
theorem tJ(hv:v<W6^n)(hb:b/64<n)(hN:n<1000000000)(hb2:b<1000000000):CP Y F.bp [lst u6 (wds n v),I b] (B (decide (2^b<=v))):=by
 refine j9 ?_;have sh:=lO hv hb hN hb2;obtain⟨m,hm⟩:=nmQ (n-b/64);rw[<-hm]at sh;have hp:=Zq b
 have hV:v/2^b<W6^m:=by
  refine Wl ?_;have e:2^b=W6^(b/64)*2^(b%64):=by rw[<-uK,<-Y6,Yf]
  have h1:W6^n=W6^(b/64)*W6^m:=by rw[<-Y6];congr 1;omega
  have h2:W6^(b/64)*1<=W6^(b/64)*2^(b%64):=Zw _ (Zq _);have h3:=Zz (W6^m) h2;rw[Yc]at h3;rw[e];omega
 have ll:bj (lst u6 (wds m (v/2^b)))=some (I m):=by rw[show bj (lst u6 (wds m (v/2^b)))=some (I (wds m (v/2^b)).length)from rfl,aM]
 have l0:=fun K=>BZ hV aa K [] m 0 aa
 simp[bp];refine cd sh ?_;simp[aM];refine lo (l0 _ (fun e=>?_) fun e=>?_)
 .rw[Nat.pow_zero,Nat.div_one]at e;exact nN (by simpa using(Nat.div_eq_zero_iff_lt hp).1 e)
 .rw[Nat.pow_zero,Nat.div_one]at e;exact nN (by simpa using Nat.le_of_not_lt fun h=>e (Wr h))
def k8:Prop:=∀x y c:Nat,x<18446744073709551616->y<18446744073709551616->c<=1->CP Y F.eM [UN x,UN y,UN c] (.tup [UN ((x+y+c)%W6),UN ((x+y+c)/W6)])
theorem nB:∀{n U j w:Nat},j<n->w<W6->(wds n U).set j w=wds n (U-U/W6^j%W6*W6^j+w*W6^j)
 | n+1,U,0,w,_,hw=>by
  have h:=Yf U W6;have e:U-U%W6+w=W6*(U/W6)+w:=aa;simp only[wds,List.set_cons_zero,Nat.pow_zero,Nat.div_one,Yc];rw[e,Wm,Yk hw,Nat.mul_add_div eV,Wr hw,Nat.add_zero]
 | n+1,U,j+1,w,h,hw=>by
  have ih:=nB (n:=n) (U:=U/W6) (j:=j) (w:=w) aa hw;rw[Xg,<-Nat.pow_succ']at ih;simp only[wds,List.set_cons_succ,ih]
  have hle:U/W6^(j+1)%W6*W6^j<=U/W6:=by
   have h1:=Ws (U/W6) (W6^j);rw[Xg,<-Nat.pow_succ']at h1;exact Zu (Zz _ (Nat.mod_le _ _)) h1
  obtain⟨a,ha⟩:=nmQ (U/W6^(j+1)%W6*W6^j);have e1:U/W6^(j+1)%W6*W6^(j+1)=W6*a:=by rw[ha,Nat.pow_succ];ac_rfl
  have e2:w*W6^(j+1)=W6*(w*W6^j):=by rw[Nat.pow_succ];ac_rfl
  rw[<-ha]at hle;rw[e1,e2,<-ha];generalize w*W6^j=b;have hU:=Yf U W6;have hm:=Zw W6 hle
  have e3:U-W6*a+W6*b=W6*(U/W6-a+b)+U%W6:=by
   rw[Nat.mul_add,Nat.mul_sub];omega
  rw[e3,Wm,Nat.mod_mod,Nat.mul_add_div eV,Wr (Y7 _ eV),Nat.add_zero]
def nH(s0:Nat×Bk)(o:LnQ):Hp:=[(1,.data 1 (o.map u6) false false),s0]
theorem B3(A:k8){v N:Nat}(hN:N<1000000000)(K:KL)(s0:Nat×Bk)(h0:Hp)(hh:h0.length=2):∀(k i U c:Nat),i+k=N->c<=1->U+c*W6^i=v+1->(∀U' c',U'+c'*W6^N=v+1->c'<=1->K (.exit 0) [] (nH s0 (wds N U'))) ->
  lp (d8 (CX Y) (.ref 0 1 0 N N N) (I N)) [] h0 [UN c,I i] (nH s0 (wds N U)) K
 | 0,i,U,c,hi,hc,hU,hK=>by
  have e:i=N:=aa;subst e;refine aj ?_;simp[d8];exact hK U c hU hc
 | k+1,i,U,c,hi,hc,hU,hK=>by
  obtain⟨x,hx⟩:=nmQ (U/W6^i%W6);have hxl:x<18446744073709551616:=by rw[hx];exact xx _
  have ad:=A x 0 c hxl ae hc;rw[Nat.add_zero]at ad;obtain⟨y,hy⟩:=nmQ ((x+c)%W6);obtain⟨d,hd⟩:=nmQ ((x+c)/W6);have hdm:W6*d+y=x+c:=by rw[hy,hd];exact Yf _ _
  have hyl:y<W6:=by rw[hy];exact Y7 _ eV
  have hd1:d<=1:=by
   rw[hd];have:(x+c)/W6<2:=Wl (by rw[gL];omega);omega
  rw[<-hy,<-hd]at ad;have hp:=Yj (n:=i) eV
  have hle:x*W6^i<=U:=by
   rw[hx];exact Zu (Zz _ (Nat.mod_le _ _)) (Ws _ _)
  have ih:=B3 A hN K s0 h0 hh k (i+1) (U-x*W6^i+y*W6^i) d aa hd1 (by
   have e1:d*W6^(i+1)+y*W6^i=(x+c)*W6^i:=by rw[<-hdm,Nat.add_mul,Nat.pow_succ];congr 1;ac_rfl
   rw[Nat.add_mul]at e1;omega) hK
  have hnx:nth 0 (wds N U) i=x:=by rw[iJ aa,hx]
  have hs:(wds N U).set i y=wds N (U-x*W6^i+y*W6^i):=by rw[nB aa hyl,hx]
  have i1:ixV (nH s0 (wds N U)) 1 (.ref 0 1 0 N N N) (I i)=some (.ptr 0 1 i N):=ixB rfl (aM N U) aa _;have i2:ld1 (nH s0 (wds N U)) (.ptr 0 1 i N)=some (UN x):=by rw[<-hnx];exact ldB 0 (f:=u6) rfl (aM N U) aa
  have i3:st (nH s0 (wds N U)) 1 (.ptr 0 1 i N) (UN y)=some (nH s0 (wds N (U-x*W6^i+y*W6^i))):=by rw[<-hs];exact stB (f:=u6) rfl (aM N U) aa (x:=y) rfl
  have gi:(i:Int)<N:=aa;have e2:((i+1:Nat):Int)=(i:Int)+1:=af;rw[e2]at ih;have hre:∀o,au [] 0 h0 (nH s0 o)=nH s0 o:=fun o=>aX 0 h0 _ (by rw[hh];rfl)
  refine aj ?_;simp(disch:=try exact ag)[d8,gi,i1,i2];refine cd ad ?_;simp(disch:=try exact ag)[i1,i3,hre];exact ih
theorem vT(A:k8)(hn:0<n)(hN:n<100000000)(hv:v<W6^n):CP Y F.bU [lst u6 (wds n v)] (lst u6 (wds (n+1) (v+1))):=by
 refine lj ?_;have cl:=xt (h:=[nnQ,nnQ]) (by simp[bW]) (l:=wds n v) (by rw[aM];exact hn) (by rw[aM];omega);have hz:wds n v++[0]=wds (n+1) v:=by rw[rc,Wr hv];rfl
 have ap:∀(k:kkQ),apV false 1 1 8 (.ref 0 1 0 n n n) (.d (.sl 1 [.int .u64 0])) (nH nnQ (wds n v)) k=k (.ref 0 1 0 (n+1) (n+1) (n+1)) (nH nnQ (wds (n+1) v)):=fun k=>by
  have e:(wds n v).map u6++[D.int .u64 0]=(wds (n+1) v).map u6:=by rw[<-hz];simp[u6]
  show apC false 1 1 8 (.ref 0 1 0 n n n) 1 [.int .u64 0] (nH nnQ (wds n v)) k=_
  unfold apC;rw[if_neg ae];have hg:aw (nH nnQ (wds n v)) 0 1=.data 1 ((wds n v).map u6) false false:=rfl;have hl:((wds n v).map u6).length=n:=by simp[aM]
  simp only[hg,hl,true_and,Zp,Yc];rw[if_pos ⟨Z7 _,Z7 _,rfl⟩,if_neg aa,if_pos aa];simp only[Ze,if_false,V7];rw[if_pos af,Zj,Z6 aa,e];rfl
 have li:∀H,cO 1 [D.int IntKind.u64 0] [(0,V.d (D.int IntKind.u64 0))] H=some ([.int .u64 0],H):=fun H=>rfl
 have l0:=fun K hK=>B3 A (v:=v) (N:=n+1) aa K nnQ (nH nnQ (wds (n+1) v)) rfl (n+1) 0 v 1 aa ae af hK
 simp(disch:=try exact ag)[bU];refine jC (fe (s:=0) (e:=0) (b:=.none) cl rfl ?_);simp(disch:=try exact ag)[li];rw[aM];refine Eq.mpr (ap _) ?_;simp(disch:=try exact ag);refine lo (l0 _ fun U' c' hU hc=>?_);have hp:=Z4 eV (show n+1<=n+1 by omega)
 have hv1:v+1<W6^(n+1):=by
  rw[Nat.pow_succ];have:=Zw (W6^n) (show 2<=W6 by decide);have:=Yj (n:=n) eV;omega
 have c0:c'=0:=by
  rcases Zd c' with h|h
  .exact h
  .have:=Zz (W6^(n+1)) h;omega
 have e:U'=v+1:=by rw[c0]at hU;omega
 rw[e];refine⟨[(1,.data 1 ((wds (n+1) (v+1)).map u6) false true),nnQ],?_⟩;simp[bJ,nH,toD,aw,lst,aM];exact Z6 (by simp[aM])
theorem Ci{U m:Nat}(hU:U<W6^m)(hj:j<m)(hw:w<W6):U-U/W6^j%W6*W6^j+w*W6^j<W6^m:=by
 obtain⟨d,rfl⟩:∃d,m=j+1+d:=⟨m-j-1,aa⟩;have hp:=Yj (n:=j) eV;have h1:=Yf U (W6^j);have h2:=Y7 U hp;have h3:=Yf (U/W6^j) W6
 have h4:U/W6^j/W6<W6^d:=by
  rw[Xg,<-Nat.pow_succ];exact Wl (by rw[<-Y6];exact hU)
 rw[Y6,Nat.pow_succ];generalize W6^j=P at *;generalize W6^d=E at *;generalize U/P/W6=q at *;generalize U/P%W6=o at *;generalize U%P=r at *;have e1:U=P*(W6*q)+o*P+r:=by rw[<-h1,<-h3,Nat.mul_add,Zt P o]
 have e2:P*(W6*q)+P*W6<=P*W6*E:=by
  have:=Zw (P*W6) (show q+1<=E from h4);rw[Nat.mul_add,Yc,Nat.mul_assoc]at this;exact this
 have e3:w*P+P<=P*W6:=by
  have:=Zw P (show w+1<=W6 from hw);rw[Nat.mul_add,Yc,Zt P w]at this;exact this
 omega
theorem BX(A:k8){n v i x N S0:Nat}(hN:N=2*n+1)(hNb:n<100000000)(hi:i<n)(hx:x<W6)(K:KL)(h0:Hp)(hh:h0.length=1):∀(r k U c:Nat),k+r=n->c<W6->U<W6^(i+n)->U+c*W6^(i+k)=S0+x*(v%W6^k)*W6^i ->
  (∀U' c',c'<W6->U'<W6^(i+n)->U'+c'*W6^(i+n)=S0+x*(v%W6^n)*W6^i->K (.exit 2) [UN c'] (eH (wds N U'))) ->
  lp (dH (CX Y) (.ref 0 1 0 N N N) (I i) (UN x) (lst u6 (wds n v)) (I n)) [] h0 [UN c,I k] (eH (wds N U)) K
 | 0,k,U,c,hk,hc,hU,hE,hK=>by
  have e:k=n:=aa;subst e;refine aj ?_;simp[dH];exact hK U c hc hU hE
 | r+1,k,U,c,hk,hc,hU,hE,hK=>by
  obtain⟨y,hy⟩:=nmQ (v/W6^k%W6);have hyl:y<W6:=by rw[hy];exact Y7 _ eV
  obtain⟨o,ho⟩:=nmQ (U/W6^(i+k)%W6);have hol:o<W6:=by rw[ho];exact Y7 _ eV
  have mu:=UY (a:=x) (b:=y) (by rw[<-gL];exact hx) (by rw[<-gL];exact hyl);rw[<-gL]at mu;obtain⟨hi',hhi⟩:∃h,h=x*y/W6:=⟨_,rfl⟩;obtain⟨lo',hlo⟩:∃l,l=x*y%W6:=⟨_,rfl⟩;have hm:W6*hi'+lo'=x*y:=by rw[hhi,hlo];exact Yf _ _
  have hlol:lo'<W6:=by rw[hlo];exact Y7 _ eV
  rw[<-hhi,<-hlo]at mu;have a1:=A lo' o 0 (by rw[<-gL];exact hlol) (by rw[<-gL];exact hol) ae;rw[Nat.add_zero]at a1;obtain⟨w1,hw1⟩:∃w,w=(lo'+o)%W6:=⟨_,rfl⟩;obtain⟨c1,hc1⟩:∃w,w=(lo'+o)/W6:=⟨_,rfl⟩;have hm1:W6*c1+w1=lo'+o:=by rw[hc1,hw1];exact Yf _ _
  have hw1l:w1<W6:=by rw[hw1];exact Y7 _ eV
  rw[<-hw1,<-hc1]at a1;have a2:=A w1 c 0 (by rw[<-gL];exact hw1l) (by rw[<-gL];exact hc) ae;rw[Nat.add_zero]at a2;obtain⟨w,hw⟩:∃u,u=(w1+c)%W6:=⟨_,rfl⟩;obtain⟨c2,hc2⟩:∃u,u=(w1+c)/W6:=⟨_,rfl⟩;have hm2:W6*c2+w=w1+c:=by rw[hc2,hw];exact Yf _ _
  have hwl:w<W6:=by rw[hw];exact Y7 _ eV
  rw[<-hw,<-hc2]at a2
  -- the sum of all
  have tot:W6*(hi'+c1+c2)+w=x*y+o+c:=by rw[Nat.mul_add,Nat.mul_add];omega
  have hcl:hi'+c1+c2<W6:=by
   have h1:x*y<=(W6-1)*(W6-1):=Zn aa aa;have h2:(W6-1)*(W6-1)+2*(W6-1)<W6*W6:=ae;have h3:W6*(hi'+c1+c2)<W6*W6:=aa;exact W5 h3
  have b1:=yd (a:=hi') (b:=c1) (by rw[<-gL];omega);have b2:=yd (a:=hi'+c1) (b:=c2) (by rw[<-gL];omega);obtain⟨T,hT⟩:=nmQ (hi'+c1+c2);rw[<-hT]at tot hcl b2;have hp:=Yj (n:=i+k) eV
  have hle:o*W6^(i+k)<=U:=by
   rw[ho];exact Zu (Zz _ (Nat.mod_le _ _)) (Ws _ _)
  have hU':=Ci (w:=w) hU (show i+k<i+n by omega) hwl;rw[<-ho]at hU'
  have ih:=BX A hN hNb hi hx K h0 hh r (k+1) (U-o*W6^(i+k)+w*W6^(i+k)) T aa hcl hU' (by
   have e1:T*W6^(i+(k+1))+w*W6^(i+k)=(x*y+o+c)*W6^(i+k):=by
    rw[<-tot,Nat.add_mul,<-Nat.add_assoc i k 1,Nat.pow_succ];congr 1;ac_rfl
   have e2:v%W6^(k+1)=v%W6^k+W6^k*y:=by rw[hy];exact Nat.mod_pow_succ
   have e3:x*(v%W6^(k+1))*W6^i=x*(v%W6^k)*W6^i+x*y*W6^(i+k):=by
    rw[e2,Nat.mul_add,Nat.add_mul,Y6];congr 1;ac_rfl
   rw[Nat.add_mul,Nat.add_mul]at e1;generalize x*(v%W6^k)*W6^i=A1 at *;generalize x*(v%W6^(k+1))*W6^i=A2 at *;omega) hK
  have hny:nth 0 (wds n v) k=y:=by rw[iJ aa,hy]
  have hno:nth 0 (wds N U) (i+k)=o:=by rw[iJ aa,ho]
  have hs:(wds N U).set (i+k) w=wds N (U-o*W6^(i+k)+w*W6^(i+k)):=by rw[nB aa hwl,ho]
  have j1:=fun H=>(lc (l:=wds n v) (i:=k) (by rw[aM];omega) H).1
  have j2:=fun H=>(lc (l:=wds n v) (i:=k) (by rw[aM];omega) H).2
  simp only[hny]at j2;have i1:=eI (aM N U) (i:=i+k) aa;have i2:=eL (aM N U) (i:=i+k) aa;have i3:=eS (x:=w) (aM N U) (i:=i+k) aa;rw[hno]at i2;rw[hs]at i3;have ek:((i+k:Nat):Int)=(i:Int)+k:=af;rw[ek]at i1;have i1':ixX (fh (eH (wds N U)) 0 1) 1 0 1 0 N N ((i:Int)+k)=some (.ptr 0 1 (i+k) N):=i1;have gk:(k:Int)<n:=aa
  have e2:((k+1:Nat):Int)=(k:Int)+1:=af;rw[e2]at ih;have hre:∀o,au [] 0 h0 (eH o)=eH o:=fun o=>aX 0 h0 _ (by rw[hh];rfl)
  refine aj ?_;simp(disch:=try exact ag)[dH,gk,j1,j2];refine cd mu ?_;simp(disch:=try exact ag)[i1,i1',i2];refine cd a1 ?_;simp(disch:=try exact ag)[b1];refine cd a2 ?_;have hTi:(hi':Int)+c1+c2=(T:Int):=aa;have hTl:T<18446744073709551616:=by rw[<-gL];exact hcl
  simp(disch:=try exact ag)[hTi,i1,i1',i3,hre];exact ih
theorem BY(A:k8){n v N:Nat}(hN:N=2*n+1)(hNb:n<100000000)(hv:v<W6^n)(K:KL)(h0:Hp)(hh:h0.length=1):∀(r i:Nat),i+r=n->K (.exit 0) [] (eH (wds N (v*v))) ->
  lp (dK (CX Y) (lst u6 (wds n v)) (.ref 0 1 0 N N N) (lst u6 (wds n v)) (I n)) [] h0 [I i] (eH (wds N (v%W6^i*v))) K
 | 0,i,hi,hK=>by
  have e:i=n:=aa;subst e;rw[Yk hv];refine aj ?_;simp[dK];exact hK
 | r+1,i,hi,hK=>by
  have ih:=BY A hN hNb hv K h0 hh r (i+1) aa hK;obtain⟨x,hx⟩:=nmQ (v/W6^i%W6);have hxl:x<W6:=by rw[hx];exact Y7 _ eV
  have hnx:nth 0 (wds n v) i=x:=by rw[iJ aa,hx]
  have j1:=fun H=>(lc (l:=wds n v) (i:=i) (by rw[aM];omega) H).1
  have j2:=fun H=>(lc (l:=wds n v) (i:=i) (by rw[aM];omega) H).2
  simp only[hnx]at j2;have gi:(i:Int)<n:=aa;have e2:((i+1:Nat):Int)=(i:Int)+1:=af;rw[e2]at ih
  have hU0:v%W6^i*v<W6^(i+n):=by
   rw[Y6];have h1:=Y7 v (Yj (n:=i) eV);exact Zk (Zz v (Wx h1)) (Nat.mul_lt_mul_of_pos_left hv (Yj eV))
  have hre:∀o,au [] 0 h0 (eH o)=eH o:=fun o=>aX 0 h0 _ (by rw[hh];rfl)
  refine aj ?_;simp(disch:=try exact ag)[dK,gi,j1,j2,aM];refine lo (BX A (S0:=v%W6^i*v) (v:=v) hN hNb (show i<n by omega) hxl _ _ rfl n 0 _ 0 aa eV hU0 (by simp[Nat.mod_one]) fun U c hc hU hE=>?_);rw[Yk hv]at hE
  have e3:v%W6^(i+1)*v=v%W6^i*v+x*v*W6^i:=by
   rw[Nat.mod_pow_succ,<-hx,Nat.add_mul];congr 1;ac_rfl
  have h0w:U/W6^(i+n)%W6=0:=by rw[Wr hU];rfl
  have hno:nth 0 (wds N U) (i+n)=0:=by rw[iJ aa,h0w]
  have hs:(wds N U).set (i+n) c=wds N (v%W6^(i+1)*v):=by
   rw[nB aa hc,h0w,e3,<-hE,Xl,Nat.sub_zero]
  have i1:=eI (aM N U) (i:=i+n) aa;have i2:=eL (aM N U) (i:=i+n) aa;have i3:=eS (x:=c) (aM N U) (i:=i+n) aa;rw[hno]at i2;rw[hs]at i3;have ek:((i+n:Nat):Int)=(i:Int)+n:=af;rw[ek]at i1;have b1:=yd (a:=0) (b:=c) (by rw[<-gL];omega);rw[Zp]at b1
  have i1':ixX (fh (eH (wds N U)) 0 1) 1 0 1 0 N N ((i:Int)+n)=some (.ptr 0 1 (i+n) N):=i1;simp(disch:=try exact ag)[aM,i1,i1',i2,b1,i3,hre];exact ih
theorem rV(A:k8)(hn:0<n)(hNb:n<100000000)(hv:v<W6^n):CP Y F.bz [lst u6 (wds n v)] (lst u6 (wds (2*n+1) (v*v))):=by
 refine kD ?_;obtain⟨N,hN⟩:=nmQ (2*n+1);rw[<-hN];have l0:=fun K h=>BY A hN hNb hv K (eH (wds N (v%W6^0*v))) rfl n 0 aa h
 have e1:(2:Int)*n+1=(N:Int):=aa
 have e0:List.replicate N (D.int IntKind.u64 0)=(wds N (v%W6^0*v)).map u6:=by
  rw[Nat.pow_zero,Nat.mod_one,Xl];clear hN l0 e1
  induction N with
  |zero=>rfl
  |succ N ih=>rw[List.replicate_succ,ih];simp[wds,u6]
 simp(disch:=try exact ag)[bz,aM,e1];rw[e0];refine lo (l0 _ ?_);refine⟨[(1,.data 1 ((wds N (v*v)).map u6) true true)],?_⟩;simp[bJ,eH,toD,aw,lst,aM];exact Z6 (by simp[aM])
end Go.Vm
namespace Go.Big
def qx(P:Nat):Nat->Nat->Nat->Option (List Bool)
 |0,_,_=>some []
 | n+1,low,high=>
  if 2^(P+2)<=low∨2^(P+2)<=high then none
  else if 2^(P+1)<=low*low/2^P then
   (if 2^(P+1)<=high*high/2^P+1 then(qx P n (low*low/2^P/2) ((high*high/2^P+1)/2+1)).map (true :: ·)else none)
  else if 2^(P+1)<=high*high/2^P+1 then none
  else(qx P n (low*low/2^P) (high*high/2^P+1)).map (false :: ·)
def jQ:Nat->List Bool->Nat
 |a,[]=>a
 |a,b::l=>jQ (a*2+(if b then 1 else 0)) l
def DT(p n:Nat):Bool:=match qx (n+64) n (p*2^(n+64-(bln p-1))) (p*2^(n+64-(bln p-1)))with
 |some l=>decide (pq p n 160=some (jQ (bln p-1) l))
 |none=>false
end Go.Big
namespace Go.Vm
open Go.Big
variable{p n e k i:Nat}{o l:LnQ}
theorem BF:∀p:Fin 98,ta p.val=true->p.val≠2->(List.range 65).all (DT p.val)=true:=bb
theorem Bf:∀n:Fin 65,pq 2 n.val 160=some (2^n.val):=bb
theorem CJ(hp:ta (p:Int)=true)(h2:p≠2)(hn:n<=64):
  ∃l,qx (n+64) n (p*2^(n+64-(bln p-1))) (p*2^(n+64-(bln p-1)))=some l∧pq p n 160=some (jQ (bln p-1) l):=by
 have h:=Zv.1 (BF ⟨p,by have:=lJ hp;omega⟩ hp h2) n (X6.2 aa);unfold DT at h;split at h
 .rename_i l hl;exact⟨l,hl,by simpa using h⟩
 .cases h
open Go Go.Am
theorem uM:∀{n k v:Nat},k<=n->(wds n v).take k=wds k v
 |_,0,_,_=>by simp[wds]
 |n+1,k+1,v,h=>by simp only[wds,List.take_succ_cons,uM (n:=n) (k:=k) (v:=v/W6) aa]
def mnH(w lo hi P:Nat)(s1 s2:Nat×Bk):Hp:=[(1,.vars [lst u6 (wds w lo),lst u6 (wds w hi),I P]),s1,s2]
theorem Cd(h:e<=64*n):2^e<=W6^n:=by rw[<-uK];exact Z4 ae h
theorem zo{v:Nat}(h0:0<k)(h:k<=n)(H:Hp):slV H 1 (lst u6 (wds n v)) none (some (I k))=some (lst u6 (wds k v)):=by rw[afx u6 (wds n v) (by rw[aM];omega) rfl (by rw[aM];exact h),uM h]
theorem zM{a b:Int}(h:b<=a):mxI false [I a,I b]=some (I b):=by simp[mxI,mx2];omega
theorem BG(A:k8){P w lo hi:Nat}(hw:w=P/64+2)(hP:P<100000)(h1:lo<2^(P+2))(h2:hi<2^(P+2)){a:Bool}(ha:decide (2^(P+1)<=lo*lo/2^P)=a)(hb:decide (2^(P+1)<=hi*hi/2^P+1)=a)
  {s1 s2:Nat×Bk} (hu1:bW 3 s1.2=true) (hu2:bW 3 s2.2=true) :
  CI Y F.bX [.ptr 0 1 0 3] (mnH w lo hi P s1 s2) (.tup [B a,B true])
   (mnH w (if a then lo*lo/2^P/2 else lo*lo/2^P) (if a then(hi*hi/2^P+1)/2+1 else hi*hi/2^P+1) P s1 s2):=by
 refine lq ?_;have hp:=Zq P;have e4:(2:Nat)^(P+2)=4*2^P:=by rw[Y6];omega
 have sqb:∀x,x<2^(P+2)->x*x/2^P<16*2^P:=fun x hx=>by
  refine Wl ?_;rw[e4]at hx;have:=Yn hx hx;have e:4*2^P*(4*2^P)=2^P*(16*2^P):=by generalize 2^P=T;rw[show 16*T=4*(4*T) by omega];ac_rfl
  omega
 have Wb:32*2^P<=W6^w:=by
  have:2^(P+5)<=W6^w:=Cd aa;rw[Y6]at this;omega
 have W0:W6^w<=W6^(w+3):=Z4 eV aa;have W1:W6^w<=W6^(w+4):=Z4 eV aa;have Wsq:W6^w*W6^w<=W6^(2*w+1):=by rw[<-Y6];exact Z4 eV aa
 have lw:lo<W6^w:=aa;have hw':hi<W6^w:=aa;have el:2*w+1-P/64=w+3:=aa;have q1:=rV A (n:=w) (v:=lo) aa aa lw;have q2:=lO (n:=2*w+1) (v:=lo*lo) (b:=P) (Z1 (Yn lw lw) Wsq) aa aa aa;rw[el]at q2;have q3:=rV A (n:=w) (v:=hi) aa aa hw'
 have q4:=lO (n:=2*w+1) (v:=hi*hi) (b:=P) (Z1 (Yn hw' hw') Wsq) aa aa aa;rw[el]at q4;have b1:=sqb lo h1;have b2:=sqb hi h2;obtain⟨x,hx⟩:=nmQ (lo*lo/2^P);obtain⟨y,hy⟩:=nmQ (hi*hi/2^P);rw[<-hx]at q2 b1 ha ⊢;rw[<-hy]at q4 b2 hb ⊢;have q5:=vT A (n:=w+3) (v:=y) aa aa aa
 have q6:=tJ (n:=w+3) (v:=x) (b:=P+1) aa aa aa aa;have q7:=tJ (n:=w+4) (v:=y+1) (b:=P+1) aa aa aa aa;rw[ha]at q6;rw[hb]at q7;have q8:=lO (n:=w+3) (v:=x) (b:=1) aa aa aa aa;have q9:=lO (n:=w+4) (v:=y+1) (b:=1) aa aa aa aa
 rw[show w+3-1/64=w+3 by omega,Nat.pow_one]at q8;rw[show w+4-1/64=w+4 by omega,Nat.pow_one]at q9;have q10:=vT A (n:=w+4) (v:=(y+1)/2) aa aa aa;have eP:((P+1:Nat):Int)=(P:Int)+1:=af;rw[eP]at q6 q7;have eQ:(P:Int)/64+2=(w:Int):=aa
 have fin:∀(l g:Nat),qN 3 (.tup [B a,B true]) (mnH w l g P s1 s2) (.tup [B a,B true]) (mnH w l g P s1 s2):=fun l g=>⟨by simp[mnH],by
  simp only[mnH,List.all_cons,List.all_nil,Y4,hu1,hu2];rfl,.inl ⟨rfl,rfl⟩⟩
 have st0:∀a b x:LnQ,st [(1,.vars [lst u6 a,lst u6 b,I P]),s1,s2] 1 (.ptr 0 1 0 3) (lst u6 x)=some [(1,.vars [lst u6 x,lst u6 b,I P]),s1,s2]:=fun _ _ _=>rfl
 have st1:∀a b x:LnQ,st [(1,.vars [lst u6 a,lst u6 b,I P]),s1,s2] 1 (.ptr 0 1 1 3) (lst u6 x)=some [(1,.vars [lst u6 a,lst u6 x,I P]),s1,s2]:=fun _ _ _=>rfl
 simp[bX,mnH];refine cd q1 ?_;simp;refine cd q2 ?_;simp;refine cd q3 ?_;simp;refine cd q4 ?_;simp;refine cd q5 ?_;simp(disch:=try exact ag)[st0,st1];refine cd q6 ?_;simp(disch:=try exact ag);refine cd q7 ?_;cases a with
 | false=>
  simp;refine aT ?_;simp(disch:=try exact ag)[eQ,aM,zM,zo,st0,st1];exact fin _ _
 | true=>
  simp;refine aT ?_;simp;refine cd q8 ?_;simp;refine cd q9 ?_;simp;refine cd q10 ?_;simp(disch:=try exact ag)[eQ,aM,zM,zo,st0,st1];exact fin _ _
def mnD(b:Bool):D:=.bool b
def mnA:Acc:=⟨2,0,1,.none⟩
theorem yh(A:k8){P w n:Nat}(hw:w=P/64+2)(hP:P<100000)(hn:n<100000)(x0 y0:Nat×Bk)(K:KL):∀(m k lo hi:Nat)(a l:List Bool),k+m=n->a.length=k->qx P m lo hi=some l ->
  (∀lo hi,K (.exit 0) [mnA.v n ((a++l).map mnD)] (mnH w lo hi P nnQ (mnA.b n ((a++l).map mnD)))) ->
  lp (f9 (CX Y) (.ptr 0 1 0 3) (I n)) [1] [x0,nnQ,y0] [mnA.v k (a.map mnD),I k] (mnH w lo hi P nnQ (mnA.b k (a.map mnD))) K
 | 0,k,lo,hi,a,l,hk,hal,he,hK=>by
  have e:k=n:=aa;subst e;have:l=[]:=by simpa[qx]using he.symm
  subst this;rw[Y8]at hK;refine aj ?_;simp[f9];exact hK lo hi
 | m+1,k,lo,hi,a,l,hk,hal,he,hK=>by
  simp only[qx]at he;by_cases hg:2^(P+2)<=lo∨2^(P+2)<=hi
  .rw[if_pos hg]at he;cases he
  rw[if_neg hg]at he
  -- the digit
  obtain ⟨b,l2,hb1,hb2,rfl,he2⟩:∃(b:Bool)(l2:List Bool),decide (2^(P+1)<=lo*lo/2^P)=b∧decide (2^(P+1)<=hi*hi/2^P+1)=b∧l=b::l2 ∧
    qx P m (if b then lo*lo/2^P/2 else lo*lo/2^P) (if b then(hi*hi/2^P+1)/2+1 else hi*hi/2^P+1)=some l2:=by
   by_cases c1:2^(P+1)<=lo*lo/2^P
   .rw[if_pos c1]at he;by_cases c2:2^(P+1)<=hi*hi/2^P+1
    .rw[if_pos c2]at he;obtain⟨l2,e1,e2⟩:=Z3.1 he;exact⟨true,l2,by simpa using c1,by simpa using c2,e2.symm,e1⟩
    .rw[if_neg c2]at he;cases he
   .rw[if_neg c1]at he;by_cases c2:2^(P+1)<=hi*hi/2^P+1
    .rw[if_pos c2]at he;cases he
    .rw[if_neg c2]at he;obtain⟨l2,e1,e2⟩:=Z3.1 he;exact⟨false,l2,by simpa using c1,by simpa using c2,e2.symm,e1⟩
  have bt:=BG A hw hP (Nat.lt_of_not_le fun h=>hg (.inl h)) (Nat.lt_of_not_le fun h=>hg (.inr h)) hb1 hb2 (s1:=nnQ) (s2:=mnA.b k (a.map mnD)) rfl (by cases k<;>rfl);have ih:=yh A hw hP hn x0 y0 K m (k+1) _ _ (a++[b]) l2 aa (by simp[hal]) he2 (by simpa using hK);generalize(if b then lo*lo/2^P/2 else lo*lo/2^P)=lo2 at *
  generalize(if b then(hi*hi/2^P+1)/2+1 else hi*hi/2^P+1)=hi2 at *;have gk:(k:Int)<n:=aa;have e2:((k+1:Nat):Int)=(k:Int)+1:=af;rw[e2]at ih;have li:∀(c:Bool) H,cO 1 [D.bool false] [(0,B c)] H=some ([mnD c],H):=fun _ _=>rfl
  refine aj ?_;simp(disch:=try exact ag)[f9,gk];refine jC (pT bt ?_ (by intro _ _ _ _ _ h;cases h));simp(disch:=try exact ag)[li];refine hO mnA (L:=k) (k:=1) (cells:=a.map mnD) (cs:=[mnD b]) aa rfl (by simp[hal,mnA]) rfl rfl (fun t e=>by cases e) aa ae ?_;simp(disch:=try exact ag)
  rw[show a.map mnD++[mnD b]=(a++[b]).map mnD by simp];have e5:mnA.v (k+1) ((a++[b]).map mnD)=.ref mnA.s (mnA.e+1) 0 (k+1) (k+1) (a.length+1):=by simp[Acc.v]
  rw[e5]at ih;exact⟨rfl,ih⟩
def b3:Hp:=[nnQ,nnQ,nnQ]
def bgH(o:LnQ):Hp:=b3++[(1,.data 1 (o.map u6) true false),nnQ,nnQ]
theorem bgI(hn:o.length=n)(hi:i<n):ixV (bgH o) 1 (.ref 3 1 0 n n n) (.d (.int .i64 (i:Int)))=some (.ptr 3 1 i n):=ixB rfl hn hi _
theorem bgL(hn:o.length=n)(hi:i<n):ld1 (bgH o) (.ptr 3 1 i n)=some (UN (nth 0 o i)):=ldB 0 (f:=u6) rfl hn hi
theorem bgS{x:Nat}(hn:o.length=n)(hi:i<n):st (bgH o) 1 (.ptr 3 1 i n) (UN x)=some (bgH (o.set i x)):=stB (f:=u6) rfl hn hi (x:=x) rfl
theorem uL:∀w,List.replicate w (D.int IntKind.u64 0)=(wds w 0).map u6
 |0=>rfl
 |w+1=>by rw[List.replicate_succ,uL w];simp[wds,u6]
theorem wO{h:Hp}(hu:(h.all fun x=>bW h.length x.2)=true){s:Nat}{ex fr:Bool}(hs:h[s]?=some (e,.data 1 (l.map u6) ex fr))(hl:l.length=n)(h0:0<n)(hb:n<1000000000):
  CI Y F.ac [.ref s e 0 n n n] h (.new 1 (l.map u6) false n n) h:=by
 refine ef ?_;have hlt:=(List.getElem?_eq_some_iff.1 hs).1;have hs2:∀x:Hp,(h++x)[s]?=some (e,.data 1 (l.map u6) ex fr):=fun x=>by rw[List.getElem?_append_left hlt];exact hs
 have hg:∀x:Hp,aw (h++x) s e=.data 1 (l.map u6) ex fr:=fun x=>by simp[aw,hs2]
 have hc:∀x:Hp,cellsOf (h++x) (.ref s e 0 n n n)=some (n,l.map u6):=fun x=>by
  simp[cellsOf,hg,hl]
  try exact Z6 (by simp[hl])
 have nl:∀(x:Hp)(k:V->Prop)(u:PU k),rn (rj (h++x) .eql (.ref s e 0 n n n) (.d nPQ)) k u=k (.d (.bool false)):=fun x k u=>by
  have hb:biN (h++x) .eql (.ref s e 0 n n n) (.d nPQ)=some (.d (.bool false)):=by simp[biN,N8,hg,hl]
  show rj (h++x) .eql (.ref s e 0 n n n) (.d nPQ) k=_
  unfold rj;rw[hb]
 simp[ac,nl]
 have hli:cO 0 [D.int IntKind.u64 0] [] (h++[(0,Bk.none),(0,Bk.none)])=some ([],h++[(0,Bk.none),(0,Bk.none)]):=by
  simp[cO,jv,iH]
 rw[hli];simp
 have ea:∀(x:Hp)(q:kkQ)(v:V),apV false (h.length+1) 1 8 v (.ref s e 0 n n n) (h++x) q=apV false (h.length+1) 1 8 v (.d (.sl n (l.map u6))) (h++x) q:=fun x q v=>by
  unfold apV;simp only[hc];rfl
 refine Eq.mpr (ea _ _ _) ?_
 show rh (apV false (h.length+1) 1 8 (.ref (h.length+0) 1 0 0 0 0) (.d (.sl n (l.map u6))) (h++[(1,.data 1 [] true false),nnQ])) _ PU.mk
 refine x8 (z:=[]) ae h0 (by simp[hl]) aa ?_;refine⟨af,?_,.inr (.inr (.inl ⟨h.length+1,1,n,n,1,l.map u6,false,af,aa,by simp[aw],rfl⟩))⟩;simp only[Yp,hu,Zg]
 try simp[bW]
theorem yO{P w:Nat}(hw:w=P/64+2)(hP:P<100000)(hk:k<=P)(hp:p<128):
  CI Y F.eR [I p,I k,I P] b3 (.tup [.new 1 [.sl w ((wds w (p*2^(P-k))).map u6),.sl w ((wds w (p*2^(P-k))).map u6),.int .i64 P] true 0 0]) b3:=by
 refine oX ?_;obtain⟨t,ht⟩:=nmQ (P-k);obtain⟨a,ha⟩:=nmQ (t/64);obtain⟨r,hr⟩:=nmQ (t%64);rw[<-ht];have e1:(P:Int)/64+2=(w:Int):=aa;have e2:(P:Int)-(k:Int)=(t:Int):=aa;have e3:(t:Int)/64=(a:Int):=aa;have e4:(t:Int)%64=(r:Int):=aa;obtain⟨x,hx⟩:=nmQ (p*2^r%W6);obtain⟨y,hy⟩:=nmQ (p*2^r/W6)
 have hxy:W6*y+x=p*2^r:=by rw[hx,hy];exact Yf _ _
 have hxl:x<W6:=by rw[hx];exact Y7 _ eV
 have e64:W6=2^r*2^(64-r):=by rw[<-Y6];show 2^64=_;congr 1;omega
 have hy2:y=p/2^(64-r):=by rw[hy,e64,Zt p,Nat.mul_div_mul_left _ _ (Zq r)]
 have hyl:y<W6:=by rw[hy2];exact Zk (Yu _ _) (Nat.lt_trans hp ae)
 have hpl:p<18446744073709551616:=aa;have hxl':x<18446744073709551616:=by rw[<-gL];exact hxl
 have hyl':y<18446744073709551616:=by rw[<-gL];exact hyl
 have hv:p*2^t=x*W6^a+y*W6^(a+1):=by
  have:t=64*a+r:=aa;rw[this,Y6,uK,Nat.pow_succ,show p*(W6^a*2^r)=W6^a*(p*2^r) by ac_rfl,<-hxy,Nat.mul_add];rw[Xd];congr 1<;>ac_rfl
 have n0:∀i,i<w->nth 0 (wds w 0) i=0:=fun i hi=>by rw[iJ hi,Nat.zero_div];rfl
 have s0:(wds w 0).set a x=wds w (x*W6^a):=by rw[nB aa hxl];simp
 have i1:=bgI (aM w 0) (i:=a) aa;have i2:=bgL (aM w 0) (i:=a) aa;have i3:=bgS (x:=x) (aM w 0) (i:=a) aa;rw[n0 a aa]at i2;rw[s0]at i3
 have sl:biI .shl (UN p) (I r)=some (UN x):=by
  rw[agM aa aa,GY,hx,gL];simp
 have o1:biI .or (UN 0) (UN x)=some (UN x):=by rw[ah8 ae hxl',Nat.zero_or]
 have hb:∀o:LnQ,([nnQ,nnQ,nnQ,(1,.data 1 (o.map u6) true false),nnQ,nnQ]:Hp)=bgH o:=fun _=>rfl
 have i1':ixX (Bk.data 1 ((wds w 0).map u6) true false) 1 3 1 0 w w (a:Int)=some (.ptr 3 1 a w):=i1
 -- the rest:a copy,the record
 obtain⟨l,hl⟩:=nmQ (wds w (p*2^t));have hll:l.length=w:=by rw[hl,aM]
 rw[<-hl];have cl:=wO (h:=bgH l) rfl (s:=3) (e:=1) rfl hll aa aa;have e3':(t:Int).tdiv 64=(a:Int):=by rw[Zs aa];omega
 have fin:qN 3 (.tup [.new 1 [.sl w (l.map u6),.sl w (l.map u6),.int .i64 P] true 0 0]) b3 (.ptr 5 1 0 3)
   (b3++[(1,.data 1 (l.map u6) true false),(1,.data 1 (l.map u6) false false),(1,.vars [.ref 3 1 0 w w w,.ref 4 1 0 w w w,I P])]):=by
  refine ⟨rfl,rfl,.inr (.inr (.inr (.inr (.inr ⟨5,1,[.ref 3 1 0 w w w,.ref 4 1 0 w w w,I P],[.sl w (l.map u6),.sl w (l.map u6),.int .i64 P],
   b3++[(1,.data 1 (l.map u6) true true),(1,.data 1 (l.map u6) false true),(1,.vars [.ref 3 1 0 w w w,.ref 4 1 0 w w w,I P])],ae,rfl,?_,rfl,rfl,.inl ⟨rfl,rfl⟩⟩))))⟩
  have ht:(l.map u6).take w=l.map u6:=Z6 (by simp[hll]);simp[iH,toD,aw,b3,hll,ht,bS]
 simp(disch:=try exact ag)[eR,b3,e1];rw[uL,hb];by_cases r0:r=0
 .subst r0;have hx0:p=x:=by rw[hx];simp;exact(Yk (by rw[gL];exact hpl)).symm
  have hy0:y=0:=by rw[hy2];exact Wr (Nat.lt_trans hp ae)
  have hl0:wds w (x*W6^a)=l:=by rw[hl,hv,hy0];simp
  have e4':(t:Int).tmod 64=((0:Nat):Int):=by rw[Zx aa];omega
  subst hx0;rw[hl0]at i3;simp(disch:=try exact ag)[e2,e3,e3',e4,e4',i1,i1',i2,sl,o1,i3];refine jD (l:=[]) (h:=bgH l) (fun q=>?_) ?_
  .simp(disch:=try exact ag)
  simp(disch:=try exact ag);refine jC (fe (s:=4) (e:=0) (b:=.none) cl rfl ?_);simp(disch:=try exact ag)[bgH,b3,hll];exact fin
 .have r1:(0:Int)<r:=aa;have e4':(t:Int).tmod 64=(r:Int):=by rw[Zx aa];omega
  have ha1:a+1<w:=aa;have wl:=aM w (x*W6^a)
  have n1:nth 0 (wds w (x*W6^a)) (a+1)=0:=by
   rw[iJ ha1,Nat.pow_succ,Zt (W6^a),Nat.mul_div_mul_right _ _ (Yj eV),Wr hxl];rfl
  have s1:(wds w (x*W6^a)).set (a+1) y=l:=by
   rw[nB ha1 hyl,<-iJ ha1,n1,hl,hv,Xl,Nat.sub_zero]
  have j1:=bgI wl (i:=a+1) ha1;have j2:=bgL wl (i:=a+1) ha1;have j3:=bgS (x:=y) wl (i:=a+1) ha1;rw[n1]at j2;rw[s1]at j3;have ea:((a+1:Nat):Int)=(a:Int)+1:=af;rw[ea]at j1
  have sr:biI .shr (UN p) (I ((64:Int)-r))=some (UN y):=by
   rw[show(64:Int)-r=((64-r:Nat):Int) by omega,hy2];exact Ew (by show 64-r<=64;omega)
  have o2:biI .or (UN 0) (UN y)=some (UN y):=by rw[ah8 ae hyl',Nat.zero_or]
  simp(disch:=try exact ag)[e2,e3,e3',e4,e4',i1,i1',i2,sl,o1,i3,r1];refine jD (l:=[]) (h:=bgH l) (fun q=>?_) ?_
  .simp(disch:=try exact ag)[e2,e3,e3',e4,e4',j1,j2,sr,o2,j3,r1]
  simp(disch:=try exact ag);refine jC (fe (s:=4) (e:=0) (b:=.none) cl rfl ?_);simp(disch:=try exact ag)[bgH,b3,hll];exact fin
end Go.Vm
