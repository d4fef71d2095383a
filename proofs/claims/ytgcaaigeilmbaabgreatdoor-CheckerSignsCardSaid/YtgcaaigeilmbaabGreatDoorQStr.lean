/- Lemmas. -/
import Derived.Test.YtgcaaigeilmbaabGreatDoorQT
set_option linter.unusedVariables false
set_option linter.unusedSimpArgs false
namespace Go.Vm
open Go Go.Am Go.Big
variable{k:IntKind}{a i y z:Int}{T:(LwQ->Hp->Prop)->Prop}{clr:LnQ}{j L n' c d i1 cap w:Nat}{h' h0:Hp}{ys args ds:LwQ}{cells:LdQ}{b' t:Bool}{C:xg}{m:LLQ}
def W:Nat:=4294967296
theorem afD:W=4294967296:=rfl
theorem bT:2<=W:=ae
theorem vH:0<W:=ae
def u32(n:Nat):D:=.int .u32 n
def nat(n:Nat):V:=lst u32 (dig W n)
def len(n:Nat):Nat:=(dig W n).length
theorem pj{n k:Nat}(h:n<W^k):len n<=k:=(gZ bT).2 h
theorem Pj(l:LnQ)(hs:l.length<2^50)(k:KL)(hk:k (.exit 0) [lst u32 (gS l)] []):lp (oT (CX Y)) [] [] [lst u32 l] [] k:=by
 have h50:(2:Nat)^50=1125899906842624:=ae
 induction hn:l.length generalizing l with
 | zero=>
  have:l=[]:=Zt hn;subst this;refine ai ?_;simp[oT,biI];exact hk
 | succ n ih=>
  obtain⟨l,x,rfl⟩:∃l' x,l=l'++[x]:=⟨l.dropLast,l.getLast (by intro e;simp[e]at hn),(X7 _).symm⟩;have hl:l.length=n:=by simpa using hn
  refine ai ?_;have h0:0<(l++[x]).length:=af;have hlt:l.length<(l++[x]).length:=af;have e1:((l++[x]).length:Int)-1=l.length:=af;simp only[oT,iu,nI,aD,I9];have hp:(0:Int)<((l++[x]).length:Int):=aa;simp only[aa1 hp,J8 hp,nI,aD];rw[Dz (by simp at hs ⊢;omega)]
  simp only[e1,aD,jL u32 (l++[x]) [] rfl hlt,sk u32 (l++[x]) [] hlt];simp only[show(l++[x])[l.length]=x by simp,u32,XZ,aD,kE];by_cases hx:x=0
  .subst hx;rw[if_pos aa];rw[NL _ _ h0 rfl af];simp only[aD,nF,clean_nil,true_and,Wp];rw[mz]at hk;exact ih l (by simp at hs;omega) hk hl
  .rw[if_neg aa];simp only[wW];rw[rV hx]at hk;exact hk
theorem xk{l:LnQ}(hl:aw W l)(hs:l.length<2^50):CP Y F.fJ [lst u32 l] (nat (val W l)):=by refine E5 ?_;simp only[fJ,List.replicate];refine Pj l hs _ ?_;simp only[fc,iu,nat,oS bT hl];exact rD ..
theorem Kp{n:Nat}(hn:n<18446744073709551616):CP Y F.kW [.d (.int .u64 n)] (nat n):=by
 refine IT ?_;have hs:=AG (k:=.u64) (l:=.u64) (a:=n) (b:=32) ae;have e32:(2:Nat)^32=4294967296:=ae;rw[e32]at hs;simp only[kW,List.replicate,Bu,aD];rw[show((32:Int))=((32:Nat):Int)from rfl,hs];simp only[aD,Bu];have hd:n/4294967296%4294967296=n/4294967296:=Zj aa;rw[hd]
 have hl:eD 2 [.int .u32 0] [(0,.d (.int .u32 ((n%4294967296:Nat):Int))),(1,.d (.int .u32 ((n/4294967296:Nat):Int)))] []=fun k=>k (lst u32 [n%4294967296,n/4294967296]) []:=by
  funext k;simp[eD,pQ,tU,fS,hO,toD,lst,u32]
 rw[hl]
 have hsm:aw W [n%4294967296,n/4294967296]:=by
  intro x hx;simp only[Zc,Yc,or_false,W]at hx ⊢;omega
 refine ZN (xk hsm (show 2<2^50 by decide)) (by simp[av]) ?_;have:val W [n%4294967296,n/4294967296]=n:=by simp only[val,W];omega
 rw[this];exact rD ..
theorem Ea(a b:LnQ)(hab:a.length=b.length)(hs:a.length<2^40)(k:KL):∀i:Nat,i<=a.length->(yv a b i=0->k (.exit 0) [] [])->(yv a b i≠0->k .ret [I (yv a b i)] []) ->
  lp (oj (CX Y) (lst u32 a) (lst u32 b)) [] [] [I ((i:Int)-1)] [] k
 | 0,_,h0,_=>by
  refine ai ?_;simp[oj];exact h0 rfl
 | i+1,hi,h0,h1=>by
  refine ai ?_;have ha:i<a.length:=aa;have hb:i<b.length:=aa;have h40:(2:Nat)^40=1099511627776:=ae;have e1:((i+1:Nat):Int)-1=i:=aa;simp only[oj,e1,iu,OX,aD,kE];rw[if_pos aa];simp only[jL u32 a [] rfl ha,jL u32 b [] rfl hb,sk u32 _ [] ha,sk u32 _ [] hb,aD,u32,np,I9,kE,Int.ofNat_lt]
  have ea:a.getD i 0=a[i]:=by simp[ha]
  have eb:b.getD i 0=b[i]:=by simp[hb]
  simp only[yv,ea,eb]at h0 h1;split
  .rename_i hlt;rw[if_pos hlt]at h1;exact h1 ae
  .rename_i hlt;rw[if_neg hlt]at h0 h1;split
   .rename_i hgt;rw[if_pos hgt]at h1;exact h1 ae
   .rename_i hgt;rw[if_neg hgt]at h0 h1;rw[Dz aa];simp only[aD,nF,clean_nil,true_and];exact Ea a b hab hs k i aa h0 h1
theorem oI{a b:Nat}(ha:len a<2^40)(hb:len b<2^40):CP Y F.cE [nat a,nat b] (I (cmp a b)):=by
 have h40:(2:Nat)^40=1099511627776:=ae;refine CE ?_;simp only[cE,List.replicate,nat,nI,aD,OW,kE,np];by_cases hl:(dig W a).length=(dig W b).length
 .rw[if_neg aa];rw[Dz (by unfold len at ha;omega)];simp only[aD];have ho:=CN vH (aJ bT a) (aJ bT b) (dig W a).length (Z7 _) aa;rw[Yb,hl,Yb,bG bT,bG bT,<-hl]at ho;refine Ea (dig W a) (dig W b) hl ha _ _ (Z7 _) (fun h0=>?_) (fun h0=>?_)
  .simp only[fc];rw[<-ho,h0];exact tj ..
  .simp only[sJ,vj,iu];rw[<-ho];exact tj ..
 .rw[if_pos aa];split
  .rename_i h;have:=vp bT (m:=a) (n:=b) aa;rw[show cmp a b = -1 by simp[cmp,this]];exact tj ..
  .rename_i h;have:=vp bT (m:=b) (n:=a) aa;rw[show cmp a b=1 by unfold cmp;rw[if_neg aa,if_pos this]];exact tj ..
theorem PS(a b:LnQ)(ha:aw W a)(hb:aw W b)(hab:b.length<=a.length)(hs:a.length<2^40)(k:KL)(h0:Hp)(hh:h0.length=1)(N:Nat)(hN:N=a.length+1):∀(r i c:Nat)(d:LnQ),d.length=i->i+r=N->aw W d->c<=1 ->
  (a.length<i->c=0)->(∀d':LnQ,d'.length=N->aw W d'->val W d'=val W d+W^i*(val W (a.drop i)+val W (b.drop i)+c)->k (.exit 0) [] [(1,.data 1 (d'.map u32) true false)]) ->
  lp (mE (CX Y) (lst u32 a) (lst u32 b) (.ref 0 1 0 N N N) (I N)) [] h0 [.d (.int .u64 c),I i] [(1,.data 1 ((d++List.replicate r 0).map u32) true false)] k:=by
 have h40:(2:Nat)^40=1099511627776:=ae;intro r
 induction r with
 | zero=>
  intro i c d hd hi hsm hc hc0 hk;refine ai ?_;simp only[mE,vi,np,aD,kE];rw[if_neg aa];simp only[wW]
  have:=hk d aa hsm (by
   rw[hc0 aa,Zv aa,Zv aa];simp[val])
  simpa using this
 | succ r ih=>
  intro i c d hd hi hsm hc hc0 hk;have hal:=ha.getD vH i;have hbl:=hb.getD vH i
  have Je:∀(l:LnQ)(hl:l.length<2^40)(h:Hp)(c x:Nat)(hx:x<W)(hxx:l.getD i 0=x)(hc:c<2*W)(q:LwQ->Hp->Prop),
    (if((i:Int)<(l.length:Int))then bnd (ixV h 1 (lst u32 l) (I i)) fun v=>bnd (ld1 h v) fun v=>bnd (cvI .u64 v) fun v=>bnd (biI .add (.d (.int .u64 c)) v) fun v=>q [v] h else q [.d (.int .u64 c)] h)=q [.d (.int .u64 ((c+x:Nat):Int))] h:=by
   intro l hl h c x hx hxx hc q;simp only[W]at hx hc;by_cases hi:i<l.length
   .rw[if_pos aa];simp only[jL u32 l h rfl hi,sk u32 l h hi,aD,u32];have:l[i]=x:=by rw[<-hxx];simp[hi]
    rw[this,IP aa];simp only[aD];rw[qF aa];rfl
   .rw[if_neg aa];have:x=0:=by rw[<-hxx];simp[List.getElem?_eq_none (by omega:l.length<=i)]
    subst this;rfl
  have hdl:(d++List.replicate (r+1) 0).length=N:=by simp;omega
  refine ai ?_;simp only[mE,vi,iu,np,aD,kE,nI];rw[if_pos aa,OC (Je a hs _ c (a.getD i 0) hal rfl (by simp only[W];omega))];simp only[iu];rw[OC (Je b aa _ _ (b.getD i 0) hbl rfl (by simp only[W]at hal ⊢;omega))];simp only[iu,Bu,aD];generalize hx:a.getD i 0=x at *;generalize hy:b.getD i 0=y at *
  rw[IA (l:=d++List.replicate (r+1) 0) (f:=u32) rfl rfl aa aa];simp only[aD];rw[show(V.d (D.int IntKind.u32 ((c+x+y)%4294967296:Nat)))=.d (u32 ((c+x+y)%4294967296))from rfl,HM (l:=d++List.replicate (r+1) 0) (f:=u32) rfl aa aa rfl];simp only[List.set_cons_zero]
  rw[show((32:Int))=((32:Nat):Int)from rfl,AG (k:=.u64) (l:=.u64) ae,show(2:Nat)^32=4294967296 by decide];simp only[aD];rw[JH aa];simp only[aD,nF,clean_nil,true_and];rw[pz 0 h0 _ (by simp[hh]),<-hd,AK,hd];simp only[W]at hal hbl
  refine ih (i+1) ((c+x+y)/4294967296) (d++[(c+x+y)%4294967296]) (by simp[hd]) aa (hsm.snoc (by simp only[W];omega)) aa (fun hlt=>?_) fun d' h1 h2 h3=>hk d' h1 h2 ?_
  .have ex:x=0:=by rw[<-hx];simp[List.getElem?_eq_none (by omega:a.length<=i)]
   have ey:y=0:=by rw[<-hy];simp[List.getElem?_eq_none (by omega:b.length<=i)]
   omega
  .rw[h3,kq,hd,eV a i,eV b i,hx,hy,Nat.pow_succ,Nat.mul_assoc,Nat.add_assoc,<-Nat.mul_add];congr 2;simp only[W];omega
theorem xw{a b:Nat}(ha:len a<2^40)(hb:len b<2^40):CP Y F.gJ [nat a,nat b] (nat (a+b)):=by
 have h40:(2:Nat)^40=1099511627776:=ae;refine E9 ?_
 have body:∀(a b:Nat),len a<2^40->len b<=len a->∀hh:Hp,hh=[nnQ]->(bnd (aj (nat a)) fun v6=>bnd (biI .add v6 (.d (.int .i64 1))) fun v7=>mkS 0 4 [.int .u32 0] hh v7 v7 fun v8 h=>bnd (aj v8) fun v9=>
   lp (mE (CX Y) (nat a) (nat b) v8 v9) [] h [(.d (.int .u64 0)),(.d (.int .i64 0))] h (exK [((.exit 0),fun l10 h=>cal (CX Y).p h (.fn F.fJ [] []) [v8] fun v11 h=>out (nat (a+b)) v11 h)])):=by
  intro a b ha hab hh hhe;subst hhe;simp only[len]at ha hab;simp only[nat,nI,aD];rw[JH aa];simp only[aD];refine ML (b:=.none) rfl aa aa ?_;simp only[aj,aD,List.set_cons_zero];have e0:List.replicate ((dig W a).length+1) (D.int IntKind.u32 0)=(([]:LnQ)++List.replicate ((dig W a).length+1) 0).map u32:=by simp[u32]
  rw[e0];refine PS (dig W a) (dig W b) (aJ bT a) (aJ bT b) hab aa _ _ rfl _ rfl _ 0 0 [] rfl aa (fun x hx=>by cases hx) aa (fun h=>rfl) fun d h1 h2 h3=>?_
  simp only[fc];simp only[Yp,bG bT,val,Nat.pow_zero,Ye,Zn,Nat.add_zero]at h3;have h50:(2:Nat)^50=1125899906842624:=ae;have ht:=xk h2 aa;rw[h3]at ht;exact vu (yl (DJ rfl h1.symm (Z7 _) h1.symm) (AE _)) ht (rD ..)
 simp only[gJ,List.replicate,nat,nI,aD,np,kE,ac8];split
 .rename_i hlt;simp only[iu,vi];have:=body b a hb (by unfold len;omega) _ rfl;rw[Yf b a]at this;exact this
 .rename_i hlt;simp only[iu,vi];exact body a b ha (by unfold len;omega) _ rfl
theorem P6(a b:LnQ)(ha:aw W a)(hb:aw W b)(hab:b.length<=a.length)(hs:a.length<2^40)(k:KL)(h0:Hp)(hh:h0.length=1)(N:Nat)(hN:N=a.length):∀(r i c:Nat)(d:LnQ),d.length=i->i+r=N->aw W d->c<=1 ->
  (∀(d':LnQ)(c':Nat),d'.length=N->aw W d'->val W d'+W^i*(val W (b.drop i)+c)=val W d+W^i*val W (a.drop i)+W^N*c'->k (.exit 0) [] [(1,.data 1 (d'.map u32) true false)]) ->
  lp (oV (CX Y) (lst u32 a) (lst u32 b) (.ref 0 1 0 N N N) (I N)) [] h0 [I c,I i] [(1,.data 1 ((d++List.replicate r 0).map u32) true false)] k:=by
 have h40:(2:Nat)^40=1099511627776:=ae;intro r
 induction r with
 | zero=>
  intro i c d hd hi hsm hc hk;refine ai ?_;simp only[oV,vi,np,aD,kE];rw[if_neg aa];simp only[wW]
  have:=hk d c aa hsm (by
   rw[Zv aa,Zv aa,show i=N by omega];simp[val])
  simpa using this
 | succ r ih=>
  intro i c d hd hi hsm hc hk;have hia:i<a.length:=aa;have hal:=ha.getD vH i;have hbl:=hb.getD vH i;have hax:a[i]=a.getD i 0:=by simp[hia]
  have hdl:(d++List.replicate (r+1) 0).length=N:=by simp;omega
  refine ai ?_;simp only[oV,vi,iu,np,aD,kE,nI];rw[if_pos aa];simp only[jL u32 a _ rfl hia,sk u32 a _ hia,aD,u32,hax];generalize hx:a.getD i 0=x at *;generalize hy:b.getD i 0=y at *;simp only[W]at hal hbl;rw[IQ,wrap_i64 aa];simp only[aD];rw[Dz aa];simp only[aD]
  have subB:∀(h:Hp)(q:LwQ->Hp->Prop),(if((i:Int)<(b.length:Int))then bnd (ixV h 1 (lst u32 b) (I i)) fun v=>bnd (ld1 h v) fun v=>bnd (cvI .i64 v) fun v=>bnd (biI .sub (I ((x:Int)-c)) v) fun v=>q [v] h else q [I ((x:Int)-c)] h)=q [I ((x:Int)-c-y)] h:=by
   intro h q;by_cases hi:i<b.length
   .rw[if_pos aa];simp only[jL u32 b h rfl hi,sk u32 b h hi,aD,u32];have:b[i]=y:=by rw[<-hy];simp[hi]
    rw[this,IQ,wrap_i64 aa];simp only[aD];rw[Dz aa];rfl
   .rw[if_neg aa];have:y=0:=by rw[<-hy];simp[List.getElem?_eq_none (by omega:b.length<=i)]
    subst this;simp
  rw[OC (subB _)];simp only[iu,np,aD,kE]
  have bor:∀(h:Hp)(q:LwQ->Hp->Prop),(if((x:Int)-c-y<0)then bnd (biI .add (I ((x:Int)-c-y)) (.d (.int .i64 4294967296))) fun v=>q [v,.d (.int .i64 1)] h else q [I ((x:Int)-c-y),.d (.int .i64 0)] h) =
    q [I ((if x<c+y then x+4294967296-(c+y)else x-(c+y):Nat):Int),I ((if x<c+y then 1 else 0:Nat):Int)] h:=by
   intro h q;by_cases hlt:x<c+y
   .rw[if_pos aa,if_pos hlt,if_pos hlt,ZX aa];simp only[aD];rw[show((x:Int)-c-y+4294967296)=((x+4294967296-(c+y):Nat):Int) by omega];rfl
   .rw[if_neg aa,if_neg hlt,if_neg hlt];rw[show((x:Int)-c-y)=((x-(c+y):Nat):Int) by omega];rfl
  rw[OC (bor _)];generalize hz:(if x<c+y then x+4294967296-(c+y)else x-(c+y))=z;generalize hc':(if x<c+y then 1 else 0:Nat)=c1;have hz4:z<4294967296:=by rw[<-hz];split<;>omega
  have hc1:c1<=1:=by rw[<-hc'];split<;>omega
  have heq:z+(y+c)=x+4294967296*c1:=by rw[<-hz,<-hc'];split<;>omega
  simp only[iu,vi,Bu,aD,Zj hz4];rw[IA (l:=d++List.replicate (r+1) 0) (f:=u32) rfl rfl aa aa];simp only[aD];rw[show(V.d (D.int IntKind.u32 (z:Nat)))=.d (u32 z)from rfl,HM (l:=d++List.replicate (r+1) 0) (f:=u32) rfl aa aa rfl];simp only[List.set_cons_zero];rw[JH aa]
  simp only[aD,nF,clean_nil,true_and];rw[pz 0 h0 _ (by simp[hh]),<-hd,AK,hd];refine ih (i+1) c1 (d++[z]) (by simp[hd]) aa (hsm.snoc (by simp only[W];omega)) hc1 fun d' c2 h1 h2 h3=>hk d' c2 h1 h2 ?_
  rw[kq,hd,Nat.pow_succ,Nat.mul_assoc,Nat.mul_assoc]at h3;rw[eV a i,eV b i,hx,hy];generalize val W (b.drop (i+1))=vb at *;generalize val W (a.drop (i+1))=va at *
  have e1:W^i*(y+W*vb+c)+W^i*z=W^i*(W*(vb+c1))+W^i*x:=by
   rw[<-Nat.mul_add,<-Nat.mul_add];congr 1;simp only[W];omega
  rw[Nat.mul_add (W^i) x];omega
theorem Ix{a b:Nat}(hba:b<=a)(ha:len a<2^40):CP Y F.kJ [nat a,nat b] (nat (a-b)):=by
 have h40:(2:Nat)^40=1099511627776:=ae;have h50:(2:Nat)^50=1125899906842624:=ae;have hlt:a<W^(dig W a).length:=(gZ bT).1 (Z7 _);have hbl:(dig W b).length<=(dig W a).length:=(gZ bT).2 aa;refine Fe ?_;simp only[len]at ha;simp only[kJ,List.replicate,nat,nI,aD]
 refine ML (b:=.none) rfl aa aa ?_;simp only[List.set_cons_zero];have e0:List.replicate ((dig W a).length) (D.int IntKind.u32 0)=(([]:LnQ)++List.replicate ((dig W a).length) 0).map u32:=by simp[u32]
 rw[e0];refine P6 (dig W a) (dig W b) (aJ bT a) (aJ bT b) hbl ha _ _ rfl _ rfl _ 0 0 [] rfl aa (fun x hx=>by cases hx) aa fun d c h1 h2 h3=>?_
 simp only[fc];simp only[Yp,bG bT,val,Nat.pow_zero,Ye,Zn,Nat.add_zero]at h3;have hd:=gr vH h2;rw[h1]at hd
 have hc:c=0:=by
  rcases Zl c with h|h
  .exact h
  .have:=Zy (W^(dig W a).length) h;omega
 subst hc;have ht:=xk h2 aa;rw[show val W d=a-b by omega]at ht;exact vu (yl (DJ rfl h1.symm (Z7 _) h1.symm) (AE _)) ht (rD ..)
theorem set_mid{α:Type}(p e t z:List α)(v w:α):(p++e++(w::t)++z).set (p.length+e.length) v=p++(e++[v])++t++z:=by rw[List.set_append_left _ _ af,X9 _ _ af];simp
theorem V4{α:Type}(p e t z:List α)(w:α)(h:p.length+e.length<(p++e++(w::t)++z).length):(p++e++(w::t)++z)[p.length+e.length]=w:=by rw[List.getElem_append_left af,List.getElem_append_right af];simp
theorem Mz(b p z:LnQ)(x:Nat)(hx:x<W)(hb:aw W b)(hp:p.length+b.length+z.length<2^50)(k:KL)(h0:Hp)(hh:h0.length=1)(N:Nat)(hN:N=p.length+b.length+z.length):∀(r:Nat)(e t:LnQ)(c:Nat),
  t.length=r->e.length+r=b.length->aw W e->aw W t->c<W ->
  (∀(e':LnQ)(c':Nat),e'.length=b.length->aw W e'->c'<W->val W e'+W^b.length*c'=val W e+W^e.length*(val W t+c+x*val W (b.drop e.length))->k (.exit 2) [.d (.int .u64 c')] [(1,.data 1 ((p++e'++z).map u32) true false)]) ->
  lp (mn (CX Y) (.ref 0 1 0 N N N) (I p.length) (.d (.int .u32 x)) (lst u32 b) (I b.length)) [] h0 [.d (.int .u64 c),I e.length] [(1,.data 1 ((p++e++t++z).map u32) true false)] k:=by
 have h50:(2:Nat)^50=1125899906842624:=ae;intro r
 induction r with
 | zero=>
  intro e t c ht he hse hst hc hk;have:t=[]:=Zt ht;subst this;refine ai ?_;simp only[mn,vi,np,aD,kE];rw[if_neg aa];simp only[wW,iu]
  have:=hk e c aa hse hc (by
   rw[Zv aa,show e.length=b.length by omega];simp[val])
  simpa using this
 | succ r ih=>
  intro e t c ht he hse hst hc hk
  obtain ⟨w,t,rfl⟩:∃w t',t=w::t':=by
   cases t with
   |nil=>simp at ht
   |cons w t=>exact⟨w,t,rfl⟩
  have hw:=hst w af;have hib:e.length<b.length:=aa;have hy:=hb.get hib;have hlen:(p++e++(w::t)++z).length=N:=by simp at ht ⊢;omega
  refine ai ?_;simp only[mn,vi,iu,np,aD,kE];rw[if_pos aa];simp only[jL u32 b _ rfl hib,sk u32 b _ hib,aD,u32];generalize hyy:b[e.length]=y at *;have hxy:x*y<=4294967295*4294967295:=Zg (by simp only[W]at hx;omega) (by simp only[W]at hy;omega);simp only[W]at hx hy hw hc
  rw[IP aa,aD,IP aa,aD,zx aa,aD,addN aa];simp only[aD];rw[IA (l:=p++e++(w::t)++z) (f:=u32) rfl rfl aa hlen.symm];simp only[aD];rw[aaR (l:=p++e++(w::t)++z) (f:=u32) (ex:=true) (fr:=false) rfl aa hlen.symm,V4];simp only[aD,u32]
  rw[IP aa,aD,qF aa,aD,qF aa];simp only[aD,Bu];generalize hs:c+(x*y+w)=s at *;rw[show(V.d (D.int IntKind.u32 ((s%4294967296:Nat):Int)))=.d (u32 (s%4294967296))from rfl];rw[HM (l:=p++e++(w::t)++z) (f:=u32) rfl aa hlen.symm rfl];simp only[List.set_cons_zero]
  rw[show((32:Int))=((32:Nat):Int)from rfl,AG (k:=.u64) (l:=.u64) ae,show(2:Nat)^32=4294967296 by decide];simp only[aD];rw[JH aa];simp only[aD,nF,clean_nil,true_and];rw[pz 0 h0 _ (by simp[hh]),set_mid];have hel:(e++[s%4294967296]).length=e.length+1:=af
  have:=ih (e++[s%4294967296]) t (s/4294967296) (by simpa using ht) aa (hse.snoc (by simp only[W];omega)) (fun q hq=>hst q (by simp[hq])) (by simp only[W];omega) fun e' c' h1 h2 h3 h4=>hk e' c' h1 h2 h3 ?_
  .rw[hel]at this;exact this
  .rw[h4,kq,hel,Nat.pow_succ,Nat.mul_assoc,Nat.add_assoc,<-Nat.mul_add,eV b e.length,show b.getD e.length 0=y by simp[hib,hyy]];congr 2;simp only[val];generalize val W (b.drop (e.length+1))=vb at *;rw[Nat.mul_add x,<-Nat.mul_assoc x W,Zw x W,Nat.mul_assoc W x];generalize x*vb=xv at *;simp only[W];omega
theorem H5(a b:LnQ)(ha:aw W a)(hb:aw W b)(hs:a.length<2^40)(hs2:b.length<2^40)(k:KL)(h0:Hp)(hh:h0.length=1)(N:Nat)(hN:N=a.length+b.length):∀(r i:Nat)(d:LnQ),d.length=i+b.length->i+r=a.length->aw W d ->
  (∀d':LnQ,d'.length=N->aw W d'->val W d'=val W d+W^i*(val W (a.drop i)*val W b)->k (.exit 0) [] [(1,.data 1 (d'.map u32) true false)]) ->
  lp (mq (CX Y) (lst u32 b) (.ref 0 1 0 N N N) (lst u32 a) (I a.length)) [] h0 [I i] [(1,.data 1 ((d++List.replicate r 0).map u32) true false)] k:=by
 have h40:(2:Nat)^40=1099511627776:=ae;have h50:(2:Nat)^50=1125899906842624:=ae;intro r
 induction r with
 | zero=>
  intro i d hd hi hsm hk;refine ai ?_;simp only[mq,iu,np,aD,kE];rw[if_neg aa];simp only[wW];have:=hk d aa hsm (by rw[Zv aa];simp[val]);simpa using this
 | succ r ih=>
  intro i d hd hi hsm hk;have hia:i<a.length:=aa;have hx:=ha.get hia;refine ai ?_;simp only[mq,iu,np,aD,kE,nI];rw[if_pos aa];simp only[jL u32 a _ rfl hia,sk u32 a _ hia,aD];generalize hxx:a[i]=x at *;have hpl:(d.take i).length=i:=by rw[Zm];omega
  have htl:(d.drop i).length=b.length:=by rw[Yz];omega
  have hdd:d++List.replicate (r+1) 0=d.take i++[]++d.drop i++List.replicate (r+1) 0:=af;rw[hdd];have key:=Mz b (d.take i) (List.replicate (r+1) 0) x hx hb (by rw[hpl,Yn];omega);rw[hpl]at key;refine key _ _ rfl N ak b.length [] (d.drop i) 0 htl af (fun q hq=>by cases hq) (hsm.drop i) vH fun e c h1 h2 h3 h4=>?_
  simp only[fc,aD,iu];rw[addN aa];simp only[aD,Bu];have hlen:(d.take i++e++List.replicate (r+1) 0).length=N:=by simp[hpl,h1];omega
  rw[IA (l:=d.take i++e++List.replicate (r+1) 0) (f:=u32) rfl rfl aa hlen.symm];simp only[aD];have hcm:c%4294967296=c:=Zj h3;rw[hcm,show(V.d (D.int IntKind.u32 (c:Nat)))=.d (u32 c)from rfl,HM (l:=d.take i++e++List.replicate (r+1) 0) (f:=u32) rfl aa hlen.symm rfl];simp only[List.set_cons_zero];rw[JH aa]
  simp only[aD,nF,clean_nil,true_and]
  have cK:(d.take i++e++List.replicate (r+1) 0).set (i+b.length) c=(d.take i++e++[c])++List.replicate r 0:=by
   have:i+b.length=(d.take i++e).length:=by simp[hpl,h1]
   rw[this,AK]
  rw[pz 0 h0 _ (by simp[hh]),cK];refine ih (i+1) (d.take i++e++[c]) (by simp[hpl,h1];omega) aa (((hsm.take i).append h2).snoc h3) fun d' g1 g2 g3=>hk d' g1 g2 ?_
  have hv:val W d=val W (d.take i)+W^i*val W (d.drop i):=by
   have:=val_append (B:=W) (d.take i) (d.drop i);rw[Ys,hpl]at this;exact this
  rw[g3,List.append_assoc,val_append,hpl,kq,h1,h4,hv,eV a i,show a.getD i 0=x by simp[hia,hxx]];simp only[val,List.length_nil,Nat.pow_zero,Ye,Zn,Nat.add_zero,Yp];rw[Nat.pow_succ,Nat.mul_assoc,Nat.add_assoc,Nat.add_assoc,<-Nat.mul_add,<-Nat.mul_add];congr 2;rw[Nat.add_mul,Nat.mul_assoc,Nat.add_assoc]
theorem qo{a b:Nat}(ha:len a<2^40)(hb:len b<2^40):CP Y F.dC [nat a,nat b] (nat (a*b)):=by
 have h40:(2:Nat)^40=1099511627776:=ae;have h50:(2:Nat)^50=1125899906842624:=ae;refine Ai ?_;simp only[len]at ha hb;simp only[dC,List.replicate,nat,nI,aD];rw[addN aa];simp only[aD];refine ML (b:=.none) rfl aa aa ?_;simp only[List.set_cons_zero]
 have e0:List.replicate ((dig W a).length+(dig W b).length) (D.int IntKind.u32 0)=(List.replicate (dig W b).length 0++List.replicate (dig W a).length 0).map u32:=by
  rw[Xx];simp[u32,Yf]
 rw[e0];refine H5 (dig W a) (dig W b) (aJ bT a) (aJ bT b) ha hb _ _ rfl _ rfl _ 0 _ af aa (fun x hx=>by rw[Xl]at hx;rw[hx.2];exact vH) fun d h1 h2 h3=>?_
 simp only[fc];rw[rL,Yp,bG bT,bG bT,Nat.pow_zero,Ye,Zn]at h3;have ht:=xk h2 aa;rw[h3]at ht;exact vu (yl (DJ rfl h1.symm (Z7 _) h1.symm) (AE _)) ht (rD ..)
inductive PU{α:Type}(k:α):Type where
 |mk
def rn{α:Type}(T:(α->Prop)->Prop)(k:α->Prop)(u:PU k):Prop:=T k
def rh{α β:Type}(T:(α->β->Prop)->Prop)(k:α->β->Prop)(u:PU k):Prop:=T k
def rl(T:KL->Prop)(k:KL)(u:PU k):Prop:=T k
def br(p A B:Prop)(u:PU A)(w:PU B):Prop:=(p->A)∧(¬p->B)
def jo(k:LwQ->Hp->Prop)(T:(LwQ->Hp->Prop)->Prop)(u:PU k)(w:PU T):Prop:=T k
theorem oB{p A B:Prop}{u:PU A}{w:PU B}(h1:p->A)(h2:¬p->B):br p A B u w:=⟨h1,h2⟩
@[simp]theorem aee(A B:Prop)(u:PU A)(w:PU B):br True A B u w=A:=by simp[br]
@[simp]theorem ady(A B:Prop)(u:PU A)(w:PU B):br False A B u w=B:=by simp[br]
@[simp]theorem afs{p A B:Prop}{u:PU A}{w:PU B}(h:p):br p A B u w=A:=by simp_all
@[simp]theorem afu{p A B:Prop}{u:PU A}{w:PU B}(h:¬p):br p A B u w=B:=by simp_all
theorem dy{k:LwQ->Hp->Prop}{u:PU k}{w:PU T}{l:LwQ}{h:Hp}(hT:∀q,T q=q l h)(hk:k l h):jo k T u w:=by grind[jo]
theorem aE{k:LwQ->Hp->Prop}{u:PU k}{w:PU T}(h:T k):jo k T u w:=h
@[simp ↓] theorem afv (o:Option V)(k:V->Prop):bnd o k=rn (bnd o) k .mk:=id rfl
@[simp ↓] theorem afm (x:V)(i:Nat)(k:V->Prop):ext x i k=rn (ext x i) k .mk:=id rfl
@[simp ↓] theorem adZ (h:Hp)(op:BinOp)(x y:V)(k:V->Prop):qK h op x y k=rn (qK h op x y) k .mk:=id rfl
@[simp ↓] theorem afp (b:Bool)(A B:Prop):cnd (.d (.bool b)) A B=br (b=true) A B .mk .mk:=by cases b<;>simp[cnd,br]
@[simp ↓] theorem ad8 (b:Bool)(h:Hp)(T:kkQ->Prop)(k:kkQ):gd (.d (.bool b)) true h T k=br (b=true) (T k) (k (.tup []) h) .mk .mk:=by cases b<;>simp[gd,br]
@[simp ↓] theorem adh (b:Bool)(h:Hp)(T:kkQ->Prop)(k:kkQ):gd (.d (.bool b)) false h T k=br (b=false) (T k) (k (.tup []) h) .mk .mk:=by cases b<;>simp[gd,br]
@[simp ↓] theorem adg (w:Bool)(h:Hp)(T:kkQ->Prop)(k:kkQ):gd (.tup []) w h T k=k (.tup []) h:=id rfl
@[simp ↓] theorem afL (k:LwQ->Hp->Prop)(T:(LwQ->Hp->Prop)->Prop):jn k T=jo k T .mk .mk:=id rfl
@[simp ↓] theorem afq (C:xg)(h:Hp)(c:V)(args:LwQ)(k:kkQ):cal C h c args k=rh (cal C h c args) k .mk:=id rfl
@[simp ↓] theorem afr (C:qZ)(h:Hp)(c:V)(args:LwQ)(s:Nat)(k:kkQ):cai C h c args s k=rh (cai C h c args s) k .mk:=id rfl
@[simp ↓] theorem aed (C:qZ)(h:Hp)(c:V)(args:LwQ)(s:Nat)(k:kkQ):Uj C h c args s k=rh (Uj C h c args s) k .mk:=id rfl
@[simp ↓] theorem afA (s:Nat)(cs:LwQ)(h:Hp)(k:kkQ):alV s cs h k=rh (alV s cs h) k .mk:=id rfl
@[simp ↓] theorem afB (s n:Nat)(cs:LdQ)(h:Hp)(k:kkQ):alD s n cs h k=rh (alD s n cs h) k .mk:=id rfl
@[simp ↓] theorem aef (s:Nat)(v:V)(h:Hp)(k:kkQ):cJ s v h k=rh (cJ s v h) k .mk:=id rfl
@[simp ↓] theorem ad4 (len:Nat)(z:LdQ)(ps:List (Nat×V))(h:Hp)(k:kkQ):eD len z ps h k=rh (eD len z ps h) k .mk:=id rfl
@[simp ↓] theorem ad3 (s len:Nat)(z:LdQ)(ps:List (Nat×V))(h:Hp)(k:kkQ):sj s len z ps h k=rh (sj s len z ps h) k .mk:=id rfl
@[simp ↓] theorem afa (s by_:Nat)(z:LdQ)(h:Hp)(l c:V)(k:kkQ):mkS s by_ z h l c k=rh (mkS s by_ z h l c) k .mk:=id rfl
@[simp ↓] theorem aeB (h:Hp)(n:Nat)(p v:V)(k:kkQ):stD h n p v k=rh (stD h n p v) k .mk:=id rfl
@[simp ↓] theorem afx (dr:Bool)(s n by_:Nat)(x y:V)(h:Hp)(k:kkQ):apV dr s n by_ x y h k=rh (apV dr s n by_ x y h) k .mk:=id rfl
@[simp ↓] theorem afw (dr:Bool)(s n by_:Nat)(z:LdQ)(x y:V)(h:Hp)(k:kkQ):apZ dr s n by_ z x y h k=rh (apZ dr s n by_ z x y h) k .mk:=id rfl
@[simp ↓] theorem afI (st:aR)(clr:LnQ)(h0:Hp)(l:LwQ)(h:Hp)(k:KL):lp st clr h0 l h k=rl (lp st clr h0 l h) k .mk:=id rfl
@[simp ↓] theorem afi (v:V)(h:Hp)(k:kkQ):fzD v h k=rh (fzD v h) k .mk:=id rfl
def rk(T:(Exit->Hp->Prop)->Prop)(k:Exit->Hp->Prop)(u:PU k):Prop:=T k
@[simp ↓] theorem ae5 (o:Option (List LvQ))(n:Nat)(st:O8)(clr:LnQ)(h:Hp)(k:Exit->Hp->Prop):rgO o n st clr h k=rk (rgO o n st clr h) k .mk:=id rfl
theorem ro{o:Option (List LvQ)}{xs:List LvQ}{n:Nat}{st:O8}{h:Hp}{k:Exit->Hp->Prop}{u:PU k}(hq:o=some xs)(hr:rg n st clr h k xs h):rk (rgO o n st clr h) k u:=by subst hq;exact hr
@[simp]theorem aeZ(v:V)(k:V->Prop)(u:PU k):rn (bnd (some v)) k u=k v:=id rfl
@[simp]theorem aeX(vs:LwQ)(i:Nat)(k:V->Prop)(u:PU k):rn (ext (.tup vs) i) k u=rn (bnd vs[i]?) k u:=id rfl
attribute [simp] J8 Vn Int.natCast_inj
@[simp]theorem acz(b:Bool)(x y:V):aA (.d (.bool (!b))) x y=aA (.d (.bool b)) y x:=by cases b<;>rfl
@[simp]theorem pu{n:Int}(h1 : -9223372036854775808<=n)(h2:n<=9223372036854775807):IntKind.wrap .i64 n=n:=wrap_i64 ⟨h1,h2⟩
@[simp]theorem aab{n:Int}(h1:0<=n)(h2:n<18446744073709551616):IntKind.wrap .u64 n=n:=wrap_u64 ⟨h1,h2⟩
@[simp]theorem L4{n:Int}(h1:0<=n)(h2:n<4294967296):IntKind.wrap .u32 n=n:=wrap_u32 ⟨h1,h2⟩
@[simp]theorem wrap_u8'{n:Int}(h1:0<=n)(h2:n<256):IntKind.wrap .u8 n=n:=L6 rfl ⟨h1,h2⟩
attribute [simp] Ja xK I8
@[simp]theorem ael{b:Int}(hb:b≠0):biI .rem (.d (.int k a)) (.d (.int k b))=some (.d (.int k (a.tmod b))):=by simp[biI,iX,mB,kA,hb]
@[simp]theorem aem{b:Int}(hb:b≠0):biI .quo (.d (.int k a)) (.d (.int k b))=some (.d (.int k (k.wrap (a.tdiv b)))):=by simp[biI,iX,mB,kA,hb]
theorem I6{l:IntKind}{b:Int}(h0:0<=b)(hb:b.toNat<=k.bits):biI .shr (.d (.int k a)) (.d (.int l b))=some (.d (.int k (a/2^b.toNat))):=by
 have h1:¬(b<0):=aa
 grind[biI,iX,mB,kA]
theorem I7{l:IntKind}{b:Int}(h0:0<=b)(hb:b.toNat<=k.bits):biI .shl (.d (.int k a)) (.d (.int l b))=some (.d (.int k (k.wrap (a*2^b.toNat)))):=by
 have h1:¬(b<0):=aa
 grind[biI,iX,mB,kA]
@[simp]theorem adD:IntKind.bits .i64=64:=rfl
@[simp]theorem adA:IntKind.bits .u64=64:=rfl
@[simp]theorem adB:IntKind.bits .u32=32:=rfl
@[simp]theorem aei:IntKind.bits .u8=8:=rfl
@[simp]theorem U4{l:IntKind}{b:Int}(h0:0<=b)(hb:b<=64):biI .shr (.d (.int .i64 a)) (.d (.int l b))=some (.d (.int .i64 (a/2^b.toNat))):=I6 h0 ak
@[simp]theorem NP{l:IntKind}{b:Int}(h0:0<=b)(hb:b<=64):biI .shl (.d (.int .i64 a)) (.d (.int l b))=some (.d (.int .i64 (IntKind.wrap .i64 (a*2^b.toNat)))):=I7 h0 ak
@[simp]theorem adN{l:IntKind}{b:Int}(h0:0<=b)(hb:b<=64):biI .shr (.d (.int .u64 a)) (.d (.int l b))=some (.d (.int .u64 (a/2^b.toNat))):=I6 h0 ak
@[simp]theorem NO{l:IntKind}{b:Int}(h0:0<=b)(hb:b<=64):biI .shl (.d (.int .u64 a)) (.d (.int l b))=some (.d (.int .u64 (IntKind.wrap .u64 (a*2^b.toNat)))):=I7 h0 ak
@[simp]theorem adO{l:IntKind}{b:Int}(h0:0<=b)(hb:b<=32):biI .shr (.d (.int .u32 a)) (.d (.int l b))=some (.d (.int .u32 (a/2^b.toNat))):=I6 h0 ak
@[simp]theorem adP{l:IntKind}{b:Int}(h0:0<=b)(hb:b<=32):biI .shl (.d (.int .u32 a)) (.d (.int l b))=some (.d (.int .u32 (IntKind.wrap .u32 (a*2^b.toNat)))):=I7 h0 ak
@[simp]theorem adK(k:IntKind)(n:Int):unV .neg (.d (.int k n))=some (.d (.int k (k.wrap (-n)))):=by simp[unV,iX,mB,kA]
def nth{α:Type}(d:α)(l:List α)(i:Nat):α:=l.getD i d
theorem gj{α:Type}(d:α)(l:List α)(i:Nat)(h:i<l.length):nth d l i=l[i]:=by simp[nth,h]
@[simp]theorem mf{α:Type}(d:α)(p:List α)(x:α)(q:List α):nth d (p++x::q) p.length=x:=by simp[nth]
variable{α:Type}(f:α->D)
@[simp] theorem qt (l:List α)(h:Hp)(h0:0<=i)(h1:i<l.length):ixV h 1 (lst f l) (.d (.int k i))=some (.dptr (l.map f) i.toNat):=
 jL f l h (X1 h0).symm aa
theorem lC(d:α)(l:List α)(h:Hp)(hl:j<l.length):ld1 h (.dptr (l.map f) j)=some (.d (f (nth d l j))):=by rw[sk f l h hl,gj d l j hl]
@[simp] theorem aff (p:List α)(x:α)(q:List α)(h:Hp)(k:IntKind):ixV h 1 (lst f (p++x::q)) (.d (.int k p.length))=some (.dptr ((p++x::q).map f) p.length):=
 jL f _ h rfl af
omit f in
@[simp] theorem afd (a:LdQ)(x:D)(b:LdQ)(h:Hp)(hj:j=a.length):ld1 h (.dptr (a++x::b) j)=some (.d x):=by subst hj;simp[ld1]
omit f in
@[simp]theorem afK(x:D)(b:LdQ)(h:Hp):ld1 h (.dptr (x::b) 0)=some (.d x):=by rfl
variable{α:Type}(f:α->D)(l:List α)
@[simp]theorem aca(h:Hp)(h0:0<=i)(h1:i<=l.length)(hp:0<l.length):slV h 1 (lst f l) none (some (I i))=some (lst f (l.take i.toNat)):=NL f l hp aa aa
@[simp]theorem ab9(h:Hp)(h0:0<=i)(h1:i<=l.length)(hp:0<l.length):slV h 1 (lst f l) (some (I i)) none=some (lst f (l.drop i.toNat)):=YS f l hp aa aa
@[simp] theorem afN (len n:Nat)(cs:LdQ)(off:Nat)(h0:0<=i)(h1:i<len):ixP len n (.dptr cs off) (.d (.int k i))=some (.dptr cs (off+i.toNat*n)):=by simp only[ixP];rw[if_pos ⟨h0,h1⟩]
@[simp] theorem afM (len n:Nat)(s e off tot:Nat)(h0:0<=i)(h1:i<len):ixP len n (.ptr s e off tot) (.d (.int k i))=some (.ptr s e (off+i.toNat*n) tot):=by simp only[ixP];rw[if_pos ⟨h0,h1⟩]
theorem ac5(h:Hp)(cs:LdQ)(pos:Nat){x:D}(hx:cs[pos]?=some x):ld1 h (.dptr cs pos)=some (.d x):=by grind[ld1]
def gR{α:Type}(f:α->LdQ)(l:List α):V:=.d (.sl l.length (l.flatMap f))
section
variable{α:Type}(f:α->LdQ){n:Nat}(hf:∀x,(f x).length=n)
include hf
theorem sE(l:List α):(l.flatMap f).length=l.length*n:=by
 induction l with
 |nil=>simp
 |cons x l ih=>grind
theorem EZ(d:α)(l:List α)(hj:j<l.length):cut (l.flatMap f) (j*n) n=some (f (nth d l j)):=by
 have hle:j*n+n<=(l.flatMap f).length:=by
  rw[sE f hf,<-X3];exact Zx n hj
 simp only[cut,if_pos hle,Z9];clear hle
 induction l generalizing j with
 |nil=>cases hj
 | cons x l ih=>
  cases j with
  |zero=>grind[nth]
  | succ j=>
   grind[X3,List.drop_drop,List.drop_left,nth]
theorem m6(l:List α)(h:Hp)(h0:0<=i)(h1:i<l.length):ixV h n (gR f l) (.d (.int k i))=some (.dptr (l.flatMap f) (i.toNat*n)):=by grind[ixV,gR,sE]
theorem m5(d:α)(l:List α)(h:Hp)(hj:j<l.length):ldA h n (.dptr (l.flatMap f) (j*n))=some (.agg ((f (nth d l j)).map .d)):=by grind[ldA,EZ]
theorem S6(d:α)(l:List α)(h:Hp){o:Nat}{x:D}(hj:j<l.length)(ho:o<n)(hx:(f (nth d l j))[o]?=some x):ld1 h (.dptr (l.flatMap f) (j*n+o))=some (.d x):=by
 have hc:=EZ f hf d l hj
 grind[cut,ld1]
end
@[simp]theorem abG{α:Type}(f:α->LdQ)(l:List α):aj (gR f l)=some (I l.length):=id rfl
@[simp]theorem abz{α:Type}(h:Hp)(f:α->LdQ)(l:List α):aP h (gR f l)=some (gR f l,h):=by rfl
def sG(place:Nat->Option (Nat×Nat))(cs:LwQ)(ps:List (Nat×V)):Option LwQ:=pQ place cs ps
@[simp]theorem abO(place:Nat->Option (Nat×Nat))(cs:LwQ):sG place cs []=some cs:=id rfl
def w8(o:Option (Nat×Nat))(place:Nat->Option (Nat×Nat))(cs:LwQ)(v:V)(r:List (Nat×V)):Option LwQ:=match o with
 |none=>none
 | some (off,sz)=>match tU v with
  |none=>none
  |some vs=>if vs.length=sz∧off+vs.length<=cs.length then sG place (cs.take off++vs++cs.drop (off+vs.length)) r else none
@[simp]theorem aa4(place:Nat->Option (Nat×Nat))(cs:LwQ)(i:Nat)(v:V)(r:List (Nat×V)):sG place cs ((i,v)::r)=w8 (place i) place cs v r:=id rfl
@[simp] theorem ad9 (place:Nat->Option (Nat×Nat))(cs:LwQ)(x:D)(r:List (Nat×V))(off sz:Nat):
  w8 (some (off,sz)) place cs (.d x) r=if 1=sz∧off+1<=cs.length then sG place (cs.take off++[.d x]++cs.drop (off+1)) r else none:=id rfl
@[simp] theorem abR (place:Nat->Option (Nat×Nat))(cs:LwQ)(vs:LwQ)(r:List (Nat×V))(off sz:Nat):
  w8 (some (off,sz)) place cs (.agg vs) r=if vs.length=sz∧off+vs.length<=cs.length then sG place (cs.take off++vs++cs.drop (off+vs.length)) r else none:=id rfl
@[simp] theorem abP (place:Nat->Option (Nat×Nat))(cs:LwQ)(a b c d e f:Nat)(r:List (Nat×V))(off sz:Nat):
  w8 (some (off,sz)) place cs (.ref a b c d e f) r=if 1=sz∧off+1<=cs.length then sG place (cs.take off++[.ref a b c d e f]++cs.drop (off+1)) r else none:=id rfl
def abl(fs:List (Nat×Nat))(z:LdQ)(ps:List (Nat×V)):Option V:=bld fs z ps
def abk(n:Nat)(z:LdQ)(ps:List (Nat×V)):Option V:=QD n z ps
@[simp]theorem ae0(fs:List (Nat×Nat))(z:LdQ)(ps:List (Nat×V))(k:V->Prop)(u:PU k):rn (bnd (bld fs z ps)) k u=rn (bnd (abl fs z ps)) k u:=id rfl
@[simp]theorem adR(n:Nat)(z:LdQ)(ps:List (Nat×V))(k:V->Prop)(u:PU k):rn (bnd (QD n z ps)) k u=rn (bnd (abk n z ps)) k u:=id rfl
@[simp]theorem aeh(fs:List (Nat×Nat))(z:LdQ)(ps:List (Nat×V)):abl fs z ps=(sG (fun i=>fs[i]?) (z.map .d) ps).map .agg:=id (by unfold abl bld sG;cases pQ (fun i=>fs[i]?) (z.map .d) ps<;>rfl)
@[simp]theorem aeg(n:Nat)(z:LdQ)(ps:List (Nat×V)):abk n z ps=(sG (fun i=>some (i*n,n)) (z.map .d) ps).map .agg:=id (by unfold abk QD sG;cases pQ (fun i=>some (i*n,n)) (z.map .d) ps<;>rfl)
@[simp]theorem afk(off n:Nat)(vs:LwQ):fiV off n true (.agg vs)=vs[off]?:=id rfl
@[simp]theorem aea(cs:LdQ)(o off:Nat):faV off (.dptr cs o)=some (.dptr cs (o+off)):=id rfl
@[simp]theorem afl(s e o tot off:Nat):faV off (.ptr s e o tot)=some (.ptr s e (o+off) tot):=id rfl
def bnh{α:Type}(o:Option α)(k:α->Prop):Prop:=match o with
 |some x=>k x
 |none=>False
@[simp]theorem aeY{α:Type}(x:α)(k:α->Prop)(u:PU k):rn (bnh (some x)) k u=k x:=id rfl
@[simp] theorem ae1 (h:Hp)(n:Nat)(p v:V)(k:kkQ)(u:PU k):rh (stD h n p v) k u=rn (bnh (st h n p v)) (fun h'=>k .junk h') .mk:=by unfold rh rn stD bnh;cases st h n p v<;>rfl
theorem CY(h:Hp)(s:Nat)(b:Bk)(k:Nat->Hp->Prop):new h s b k=bnh h[s]? fun x=>k (x.1+1) (h.set s (x.1+1,b)):=by grind[new,bnh]
@[simp]theorem ae3(s:Nat)(cs:LwQ)(h:Hp)(k:kkQ)(u:PU k):rh (alV s cs h) k u=rn (bnh h[s]?) (fun x=>k (.ptr s (x.1+1) 0 cs.length) (h.set s (x.1+1,.vars cs))) .mk:=by unfold rh rn alV;exact CY ..
@[simp]theorem adU(s:Nat)(vs:LwQ)(h:Hp)(k:kkQ)(u:PU k):rh (cJ s (.agg vs) h) k u=rh (alV s vs h) k u:=id rfl
@[simp]theorem acv(s:Nat)(x:D)(h:Hp)(k:kkQ)(u:PU k):rh (cJ s (.d x) h) k u=rh (alV s [.d x] h) k u:=id rfl
def fj(len:Nat)(z:LdQ)(ps:List (Nat×V))(h:Hp):Option (LdQ×Hp):=match sG (fun i=>some (i*z.length,z.length)) ((fS len z).map .d) ps with
 |some vs=>if 0<z.length∧len*z.length<=16777216 then hO h vs else none
 |none=>none
@[simp] theorem adT (len:Nat)(z:LdQ)(ps:List (Nat×V))(h:Hp)(k:kkQ)(u:PU k):rh (eD len z ps h) k u=rn (bnh (fj len z ps h)) (fun x=>k (.d (.sl len x.1)) x.2) .mk:=by
 unfold rh rn eD fj bnh sG;cases pQ (fun i=>some (i*z.length,z.length)) ((fS len z).map .d) ps with
 |none=>rfl
 | some vs=>
  simp only;split
  .cases hO h vs<;>rfl
  .rfl
@[simp] theorem adS (s len:Nat)(z:LdQ)(ps:List (Nat×V))(h:Hp)(k:kkQ)(u:PU k):rh (sj s len z ps h) k u=rn (bnh (fj len z ps h)) (fun x=>rn (bnh x.2[s]?) (fun y=>k (.ref s (y.1+1) 0 len len x.1.length) (x.2.set s (y.1+1,.data z.length x.1 true false))) .mk) .mk:=by
 unfold rh rn sj fj bnh sG;cases pQ (fun i=>some (i*z.length,z.length)) ((fS len z).map .d) ps with
 |none=>rfl
 | some vs=>
  simp only;split
  .cases hO h vs with
   |none=>rfl
   |some x=>simp only[CY];rfl
  .rfl
def jN(h:Hp)(s e:Nat):Bk:=aH h s e
@[simp]theorem aaW(e0:Nat)(b:Bk)(h:Hp)(e:Nat):jN ((e0,b)::h) 0 e=if e0=e then b else .none:=id rfl
@[simp]theorem aaX(x:Nat×Bk)(h:Hp)(s e:Nat):jN (x::h) (s+1) e=jN h s e:=id rfl
@[simp]theorem abM(x:Nat×Bk)(h:Hp)(e:Nat):jN (x::h) 1 e=jN h 0 e:=id rfl
@[simp]theorem abL(x:Nat×Bk)(h:Hp)(e:Nat):jN (x::h) 2 e=jN h 1 e:=id rfl
@[simp]theorem YZ(x:Nat×Bk)(h:Hp)(e:Nat):jN (x::h) 3 e=jN h 2 e:=id rfl
@[simp]theorem aaY(x:Nat×Bk)(h:Hp)(e:Nat):jN (x::h) 4 e=jN h 3 e:=id rfl
def S8(b:Bk)(off tot:Nat):Option V:=match b with
 |.vars cs=>if tot=cs.length then cs[off]? else none
 |.data _ cs _ _=>if tot=cs.length then cs[off]?.map .d else none
 |.none=>none
def P8(b:Bk)(n off tot:Nat):Option V:=match b with
 |.vars cs=>if tot=cs.length then(cut cs off n).map .agg else none
 |.data _ cs _ _=>if tot=cs.length then(cut cs off n).map fun l=>.agg (l.map .d)else none
 |.none=>none
theorem ac6(h:Hp)(s e off tot:Nat):ld1 h (.ptr s e off tot)=S8 (jN h s e) off tot:=by
 unfold jN;simp only[ld1];cases aH h s e with
 |none=>rfl
 |vars cs=>rfl
 | data n cs a b=>
  simp only[S8];split
  .cases cs[off]?<;>rfl
  .rfl
theorem ac4(h:Hp)(n s e off tot:Nat):ldA h n (.ptr s e off tot)=P8 (jN h s e) n off tot:=by
 unfold jN;simp only[ldA];cases aH h s e with
 |none=>rfl
 | vars cs=>
  simp only[P8];split
  .cases cut cs off n<;>rfl
  .rfl
 | data m cs a b=>
  simp only[P8];split
  .cases cut cs off n<;>rfl
  .rfl
@[simp]theorem aeV(h:Hp)(s e off tot:Nat)(k:V->Prop)(u:PU k):rn (bnd (ld1 h (.ptr s e off tot))) k u=rn (bnd (S8 (jN h s e) off tot)) k u:=by rw[ac6]
@[simp]theorem aeU(h:Hp)(n s e off tot:Nat)(k:V->Prop)(u:PU k):rn (bnd (ldA h n (.ptr s e off tot))) k u=rn (bnd (P8 (jN h s e) n off tot)) k u:=by rw[ac4]
@[simp]theorem abJ(cs:LwQ)(off tot:Nat):S8 (.vars cs) off tot=if tot=cs.length then cs[off]? else none:=id rfl
@[simp]theorem abK(n:Nat)(cs:LdQ)(a b:Bool)(off tot:Nat):S8 (.data n cs a b) off tot=if tot=cs.length then cs[off]?.map .d else none:=id rfl
@[simp]theorem abH(cs:LwQ)(n off tot:Nat):P8 (.vars cs) n off tot=if tot=cs.length then(cut cs off n).map .agg else none:=id rfl
@[simp]theorem abI(m:Nat)(cs:LdQ)(a b:Bool)(n off tot:Nat):P8 (.data m cs a b) n off tot=if tot=cs.length then(cut cs off n).map (fun l=>.agg (l.map .d))else none:=id rfl
def stX(b:Bk)(h:Hp)(s e off tot:Nat)(vs:LwQ):Option Hp:=match b with
 |.vars cs=>if tot=cs.length∧off+vs.length<=cs.length∧vs.all okV=true then some (cK h s e (.vars (cs.take off++vs++cs.drop (off+vs.length))))else none
 |_=>sto h s e off tot vs
theorem YL(h:Hp)(s e off tot:Nat)(vs:LwQ):sto h s e off tot vs=stX (jN h s e) h s e off tot vs:=by
 unfold jN stX;cases hb:aH h s e with
 |vars cs=>simp[sto,hb]
 |none=>rfl
 |data n cs a b=>rfl
@[simp] theorem aeS (h:Hp)(n s e off tot:Nat)(vs:LwQ)(k:Hp->Prop)(u:PU k):rn (bnh (st h n (.ptr s e off tot) (.agg vs))) k u=rn (bnh (if vs.length=n then stX (jN h s e) h s e off tot vs else none)) k u:=by simp only[rn,st,YL]
def JJ(b:Bk)(h:Hp)(s e off tot:Nat)(x:D):Option Hp:=match b with
 |.vars cs=>if tot=cs.length∧off+1<=cs.length then some (cK h s e (.vars (cs.take off++[.d x]++cs.drop (off+1))))else none
 |.data n cs ex fr=>if fr=false∧tot=cs.length∧off+1<=cs.length then some (cK h s e (.data n (cs.set off (norm x)) ex false))else none
 |.none=>none
theorem acf(h:Hp)(s e off tot:Nat)(x:D):st h 1 (.ptr s e off tot) (.d x)=JJ (jN h s e) h s e off tot x:=by
 unfold jN;simp only[st,if_true];cases hb:aH h s e with
 |none=>simp[sto,hb,JJ]
 |vars cs=>simp[sto,hb,JJ,okV]
 | data n cs ex fr=>
  simp only[sto,hb,hO,toD,JJ];by_cases hc:fr=false∧tot=cs.length∧off+1<=cs.length
  .rw[if_pos hc,if_pos aa];rw[Yh,if_pos aa];simp
  .rw[if_neg hc,if_neg aa]
@[simp]theorem aeT(h:Hp)(s e off tot:Nat)(x:D)(k:Hp->Prop)(u:PU k):rn (bnh (st h 1 (.ptr s e off tot) (.d x))) k u=rn (bnh (JJ (jN h s e) h s e off tot x)) k u:=by rw[acf]
@[simp]theorem aby(cs:LwQ)(h:Hp)(s e off tot:Nat)(x:D):JJ (.vars cs) h s e off tot x=if tot=cs.length∧off+1<=cs.length then some (cK h s e (.vars (cs.take off++[.d x]++cs.drop (off+1))))else none:=id rfl
@[simp] theorem Pw (n:Nat)(cs:LdQ)(ex:Bool)(h:Hp)(s e off tot:Nat)(x:D)(ht:tot=cs.length)(ho:off<cs.length):JJ (.data n cs ex false) h s e off tot x=some (cK h s e (.data n (cs.set off (norm x)) ex false)):=by simp only[JJ];simp[ht];omega
def ixX(b:Bk)(n s e off len tot:Nat)(i:Int):Option V:=match b with
 |.data _ cs _ _=>if tot=cs.length∧0<=i∧i<len then some (.ptr s e (off+i.toNat*n) tot)else none
 |.vars cs=>if tot=cs.length∧0<=i∧i<len then some (.ptr s e (off+i.toNat*n) tot)else none
 |_=>none
@[simp] theorem aeW (h:Hp)(n s e off len cap tot:Nat)(kd:IntKind)(i:Int)(k:V->Prop)(u:PU k):rn (bnd (ixV h n (.ref s e off len cap tot) (.d (.int kd i)))) k u=rn (bnd (ixX (jN h s e) n s e off len tot i)) k u:=by
 have:ixV h n (.ref s e off len cap tot) (.d (.int kd i))=ixX (jN h s e) n s e off len tot i:=by
  unfold jN;simp only[ixV,ixX];cases aH h s e<;>rfl
 rfl
@[simp] theorem adb (m:Nat)(cs:LdQ)(a b:Bool)(n s e off len tot:Nat)(i:Int)(ht:tot=cs.length)(h0:0<=i)(h1:i<len):ixX (.data m cs a b) n s e off len tot i=some (.ptr s e (off+i.toNat*n) tot):=by simp only[ixX];rw[if_pos ⟨ht,h0,h1⟩]
@[simp] theorem ada (cs:LwQ)(n s e off len tot:Nat)(i:Int)(ht:tot=cs.length)(h0:0<=i)(h1:i<len):ixX (.vars cs) n s e off len tot i=some (.ptr s e (off+i.toNat*n) tot):=by simp only[ixX];rw[if_pos ⟨ht,h0,h1⟩]
@[simp] theorem aeR (h:Hp)(n s e off tot a b c d f g:Nat)(k:Hp->Prop)(u:PU k):rn (bnh (st h n (.ptr s e off tot) (.ref a b c d f g))) k u=rn (bnh (if n=1 then stX (jN h s e) h s e off tot [.ref a b c d f g]else none)) k u:=by simp only[rn,st,YL]
@[simp]theorem ace(cs:LwQ)(h:Hp)(s e off tot:Nat)(vs:LwQ):stX (.vars cs) h s e off tot vs=if tot=cs.length∧off+vs.length<=cs.length∧vs.all okV=true then some (cK h s e (.vars (cs.take off++vs++cs.drop (off+vs.length))))else none:=id rfl
@[simp]theorem ad6(h:Hp)(s e:Nat)(b:Bk):cK h s e b=h.set s (e,b):=rfl
@[simp]theorem afH(x:D):okV (.d x)=true:=rfl
@[simp]theorem adV(a b c d e f:Nat):okV (.ref a b c d e f)=true:=rfl
@[simp]theorem afo{α:Type}(l:List α)(off n:Nat):cut l off n=if off+n<=l.length then some ((l.drop off).take n)else none:=id rfl
@[simp]theorem iV(i:Nat)(h0 h:Hp)(hl:h.length=h0.length):bm [] i h0 h=h:=pz i h0 h hl
@[simp]theorem aec(q:LwQ->Hp->Prop)(r:List (Exit×(LwQ->Hp->Prop)))(l:LwQ)(h:Hp):exK ((.normal,q)::r) .normal l h=q l h:=rfl
@[simp]theorem ZE(q:LwQ->Hp->Prop)(r:List (Exit×(LwQ->Hp->Prop)))(l:LwQ)(h:Hp):exK ((.normal,q)::r) .ret l h=exK r .ret l h:=rfl
@[simp]theorem ZD(q:LwQ->Hp->Prop)(r:List (Exit×(LwQ->Hp->Prop)))(l:LwQ)(h:Hp):exK ((.ret,q)::r) .normal l h=exK r .normal l h:=rfl
@[congr]theorem abN{l:List Gh}{h:Hp}{k:Hp->Prop}(e:h=h'):ghG l h k=ghG l h' k:=by rw[e]
@[congr]theorem ach{h:Hp}{x:V}{k:Prop}(e:h=h'):sp h x ys k=sp h' x ys k:=by rw[e]
@[congr]theorem ack{h:Hp}{x y:V}{k:Prop}(e:h=h'):sm h x y k=sm h' x y k:=by rw[e]
theorem Q4{h:Hp}{x:V}{k:Prop}:∀{ys:LwQ},ys.all (apt h x)=true->k->sp h x ys k
 |[],_,hk=>hk
 | y::ys,hb,hk=>by
  simp only[List.all_cons,Z8]at hb;unfold sp;rw[hb.1];exact Q4 hb.2 hk
structure Acc where
 s:Nat
 e:Nat
 n:Nat
 b0:Bk
def Acc.v(a:Acc)(L:Nat)(cells:LdQ):V:=match L with
 |0=>.d nPQ
 |_=>.ref a.s (a.e+1) 0 L L cells.length
def Acc.b(a:Acc)(L:Nat)(cells:LdQ):Nat×Bk:=match L with
 |0=>(a.e,a.b0)
 |_=>(a.e+1,.data a.n cells false false)
theorem rI(a:Acc){L by_ k:Nat}{cells cs:LdQ}{h:Hp}{y:V}{q:kkQ}{u:PU q}(hk:0<k)(hs:h[a.s]?=some (a.b L cells))(hc:cells.length=L*a.n)(hcs:cs.length=k*a.n)
  (hy:cellsOf h y=some (k,cs)) (hyn:∀t,y≠.d (.str t)) (hb:(L+k)*by_<=140737488355328) (hn:0<a.n) (hq:q (a.v (L+k) (cells++cs)) (h.set a.s (a.b (L+k) (cells++cs)))):rh (apV false a.s a.n by_ (a.v L cells) y h) q u:=by
 have e1:apV false a.s a.n by_ (a.v L cells) y h q=apC false a.s a.n by_ (a.v L cells) k cs h q:=by
  unfold apV;split
  .trivial
  .grind
 show apV false a.s a.n by_ (a.v L cells) y h q
 rw[e1];have hlt:=(List.getElem?_eq_some_iff.1 hs).1;obtain⟨m,hm⟩:∃m,L+k=m+1:=⟨L+k-1,aa⟩;cases L with
 | zero=>
  have:cells=[]:=Zt aa;subst this;simp only[Zn,List.nil_append]at *;simp only[Acc.v];unfold apC;rw[if_neg aa];simp only[];rw[if_pos aa]
  simp_all[new,Acc.b,Acc.v]
 | succ L=>
  simp only[Acc.v];unfold apC;rw[if_neg aa];have hg:aH h a.s (a.e+1)=.data a.n cells false false:=by simp only[aH,hs,Acc.b,if_true]
  simp only[hg,true_and,Zn];rw[if_pos ⟨Z7 _,aa,hcs⟩,if_neg aa,if_pos hb];simp only[Zi,if_false,Bool.or_self];have hpos:0<cs.length:=by rw[hcs];exact Y4 hk hn
  rw[if_pos ⟨aa,aa⟩];rw[hm]at hq ⊢;simp only[Acc.v,Acc.b,Zo,cK,hc]at hq ⊢;simp only[Yp];rw[Z0 aa];exact hq
theorem uJ(a:Acc){h:Hp}(hs:h[a.s]?=some (a.b L cells))(hc:cells.length=L*a.n):
  ∃h',aP h (a.v L cells)=some (.d (.sl L cells),h')∧((L=0∧h'=h)∨(0<L∧h'=h.set a.s (a.e+1,.data a.n cells false true))):=by
 cases L with
 | zero=>
  simp_all[Acc.v]
 | succ L=>
  have hg:aH h a.s (a.e+1)=.data a.n cells false false:=by simp only[aH,hs,Acc.b,if_true]
  refine⟨_,?_,.inr ⟨Nat.succ_pos _,rfl⟩⟩;simp only[Acc.v,aP,toD,hg,true_and,Zn];rw[if_pos ⟨Z7 _,aa⟩];simp only[Yp,cK];rw[Z0 aa]
theorem Jf(a:Acc){h:Hp}(hs:h[a.s]?=some (a.b L cells))(hc:cells.length=L*a.n):out (.d (.sl L cells)) (a.v L cells) h:=by obtain⟨h',h1,_⟩:=uJ a hs hc;exact⟨h',h1⟩
theorem bL{b:Bool}{h:Hp}(e:b'=b):out (B b) (.d (.bool b')) h:=by simp_all
theorem cF{b:Int}{h:Hp}(e:b=a):out (.d (.int k a)) (.d (.int k b)) h:=by simp_all
theorem cd{h:Hp}{f:FuncId}{v:V}{k:kkQ}{u:PU k}(hc:C f args v)(hk:k v h)(hs:av h args=some (args,h):=by simp[av,aP]):rh (cal C h (.fn f [] []) args) k u:=ZN hc hs hk
theorem cdx{h:Hp}{f:FuncId}{v:V}{k:kkQ}{u:PU k}(hs:av h args=some (ds,h))(hc:C f ds v)(hk:k v h):rh (cal C h (.fn f [] []) args) k u:=
 vu hs hc (by grind)
theorem lo{st:aR}{l:LwQ}{h:Hp}{k:KL}{u:PU k}(hl:lp st clr h0 l h k):rl (lp st clr h0 l h) k u:=hl
def hQ(n:Nat):D:=.sl (len n) ((dig W n).map u32)
theorem eZ(n:Nat):nat n=.d (hQ n):=rfl
@[simp]theorem abD(n:Nat):norm (hQ n)=hQ n:=rfl
@[simp]theorem aci(h:Hp)(n:Nat):aP h (nat n)=some (nat n,h):=yX ..
@[simp]theorem abE(n:Nat):aj (.d (hQ n))=some (I (len n)):=rfl
def jZ(z:Int):LwQ:=[.d (.bool (decide (z<0))),.d (hQ z.natAbs)]
def fH(z:Int):V:=.agg (jZ z)
@[simp]theorem abA(h:Hp)(z:Int):aP h (fH z)=some (fH z,h):=by simp[fH,jZ,aP,av]
theorem zD:len 0=0:=by simp[len,dig,ET]
theorem zE{n:Nat}:0<len n↔0<n:=by
 constructor
 .intro h;rcases Zl n with e|e
  .subst e;simp[zD]at h
  .exact e
 .intro h;rcases Zl (len n)with e|e
  .have:n<W^(dig W n).length:=(gZ bT).1 (Z7 _);unfold len at e;rw[e]at this;simp at this;omega
  .exact e
theorem xy:hQ 0=.sl 0 []:=by simp[hQ,len,dig,ET]
theorem xE{b:Bool}{n:Nat}(hn:z.natAbs=n)(hb:b=decide (z<0)):fH z=.agg [.d (.bool b),.d (hQ n)]:=by subst hn;subst hb;rfl
theorem se{b:Bool}{n:Nat}{h:Hp}(hn:n'=n)(hb:b=b'):out (.agg [.d (.bool b'),.d (hQ n')]) (.agg [.d (.bool b),.d (hQ n)]) h:=by subst hn;subst hb;exact⟨h,by simp[aP,av]⟩
theorem XJ{a b:Nat}:cmp a b=1↔b<a:=by unfold cmp;split<;>(try split)<;>simp<;>omega
theorem XK{a b:Nat}:cmp a b = -1↔a<b:=by unfold cmp;split<;>(try split)<;>simp<;>omega
theorem pZ{a b:Nat}:cmp a b=0↔a=b:=by unfold cmp;split<;>(try split)<;>simp<;>omega
theorem QP{n:Int}(h : -9223372036854775808<=n∧n<0):IntKind.wrap .u64 (IntKind.wrap .i64 (-n))=(n.natAbs:Int):=by have e1:(2:Int)^64=18446744073709551616:=ae;have e2:(2:Int)^(64-1)=9223372036854775808:=ae;simp only[IntKind.wrap,IntKind.bits,IntKind.signed,e1,e2,Y9,Xn,decide_eq_true_eq];simp only[Zi,if_false];split<;>omega
theorem qp{n:Int}(h : -9223372036854775808<=n∧n<=9223372036854775807):CP Y F.dD [I n] (fH n):=by
 refine Bw ?_;simp(disch:=try exact ac)[dD];refine oB (fun hn=>?_) (fun hn=>?_)
 .have e:=QP ⟨h.1,hn⟩;simp(disch:=try exact ac)[e];refine cd (Kp aa) ?_;simp(disch:=try exact ac)[eZ];exact se rfl (by simp[hn])
 .have e:IntKind.wrap .u64 n=(n.natAbs:Int):=by rw[wrap_u64 aa];omega
  simp(disch:=try exact ac)[e];refine cd (Kp aa) ?_;simp(disch:=try exact ac)[eZ];exact se rfl ak
theorem Pi(z:Int):CP Y F.eM [fH z] (fH (-z)):=by
 refine tS ?_;simp(disch:=try exact ac)[eM,fH,jZ];have:=zE (n:=z.natAbs);refine oB (fun h=>?_) (fun h=>?_)<;>try simp(disch:=try exact ac)[h]
 all_goals exact se aa ak
def fits(z:Int):Prop:=len z.natAbs<2^40
theorem Fz{b:Int}(ha:fits a)(hb:fits b):CP Y F.bM [fH a,fH b] (fH (a+b)):=by
 refine wi ?_;simp(disch:=try exact ac)[bM,fH,jZ];refine oB (fun h=>?_) (fun h=>?_)<;>try simp(disch:=try exact ac)[h]
 .refine cd (xw ha hb) ?_;simp(disch:=try exact ac)[eZ];exact se aa ak
 .refine cd (oI ha hb) ?_;simp(disch:=try exact ac)[XJ];refine oB (fun h1=>?_) (fun h1=>?_)<;>try simp(disch:=try exact ac)[h1]
  .refine cd (Ix aa ha) ?_;simp(disch:=try exact ac)[eZ];exact se aa ak
  .simp(disch:=try exact ac)[XK];refine oB (fun h2=>?_) (fun h2=>?_)<;>try simp(disch:=try exact ac)[h2]
   .refine cd (Ix aa hb) ?_;simp(disch:=try exact ac)[eZ];exact se aa ak
   .have e:a+b=0:=aa;rw[e];exact⟨_,by simp[aP,av,xy];rfl⟩
theorem Ky{b:Int}:a*b<0↔a≠0∧b≠0∧¬(a<0↔b<0):=by
 rcases Int.lt_trichotomy a 0 with ha|ha|ha<;>rcases Int.lt_trichotomy b 0 with hb|hb|hb
 .have:=Int.mul_pos_of_neg_of_neg ha hb;omega
 .subst hb;simp
 .have:=Xh ha hb;omega
 .subst ha;simp
 .subst ha;simp
 .subst ha;simp
 .have:=Int.mul_neg_of_pos_of_neg ha hb;omega
 .subst hb;simp
 .have:=Wc ha hb;omega
theorem wt{b:Int}(ha:fits a)(hb:fits b):CP Y F.bI [fH a,fH b] (fH (a*b)):=by
 refine uD ?_;simp(disch:=try exact ac)[bI,fH,jZ];refine cd (qo ha hb) ?_;simp(disch:=try exact ac)[eZ];have h1:=zE (n:=a.natAbs*b.natAbs)
 have h2:0<a.natAbs*b.natAbs↔a≠0∧b≠0:=by
  rw[Nat.pos_iff_ne_zero];simp[Nat.mul_eq_zero]
 have h3:=Ky (a:=a) (b:=b);refine oB (fun h=>?_) (fun h=>?_)<;>try simp(disch:=try exact ac)[h]
 all_goals
  refine se (Y3 a b) ?_;rw[Ym];by_cases ha0:a<0<;>by_cases hb0:b<0<;>simp[h3,ha0,hb0]<;>omega
theorem K9{b:Int}(ha:fits a)(hb:fits b):CP Y F.dR [fH a,fH b] (B (decide (a=b))):=by
 refine uE ?_;simp(disch:=try exact ac)[dR,fH,jZ];refine oB (fun h=>?_) (fun h=>?_)<;>try simp(disch:=try exact ac)[h]
 .refine cd (oI ha hb) ?_;simp(disch:=try exact ac)[h,pZ];have:decide (a=b)=decide (a.natAbs=b.natAbs):=by simp;omega
  rw[this];exact wP ..
 .have:decide (a=b)=false:=by simp;omega
  rw[this];exact wP ..
def di(n:Int):D:=.int .i64 n
def row(l:LiQ):D:=.sl l.length (l.map di)
abbrev mat(m:LLQ):V:=lst row m
@[simp]theorem afS(n:Int):V.d (di n)=I n:=id rfl
@[simp]theorem adY(n:Int):norm (di n)=di n:=rfl
@[simp]theorem acM(l:LiQ):norm (row l)=row l:=rfl
@[simp]theorem afe(l:LiQ)(h:Hp)(h0:0<=i)(h1:i<l.length):ixV h 1 (.d (row l)) (.d (.int k i))=some (.dptr (l.map di) i.toNat):=qt di l h h0 h1
@[simp]theorem MR(l:LiQ)(h:Hp)(hl:j<l.length):ld1 h (.dptr (l.map di) j)=some (.d (di (nth 0 l j))):=lC di 0 l h hl
@[simp]theorem VT(m:LLQ)(h:Hp)(hl:j<m.length):ld1 h (.dptr (m.map row) j)=some (.d (row (nth [] m j))):=lC row [] m h hl
theorem Eb{α:Type}(d:α)(l:List α):nth d l 0=l.headD d:=by cases l<;>rfl
@[simp]theorem acU(l:LiQ):aj (.d (row l))=some (I l.length):=rfl
def idx{α:Type}(p:α->Bool)(l:List α):Int:=match l.findIdx? p with
 |some i=>i
 |none=>-1
theorem cdf{h:Hp}{f:FuncId}{fs cs:LwQ}{v:V}{k:kkQ}{u:PU k}(hc:C f (fs++args++cs) v)(hs:av h (fs++args++cs)=some (fs++args++cs,h))(hk:k v h):rh (cal C h (.fn f fs cs) args) k u:=by simp only[rh,cal,hs];exact⟨v,hc,by simpa using hk⟩
variable{α:Type}{f:α->D}{g:FuncId}{fs cs:LwQ}{p:α->Bool}
theorem KW(hs:∀x,av [] (fs++[.d (f x)]++cs)=some (fs++[.d (f x)]++cs,[]))(k:KL):∀(q a:List α),(a++q).length<4611686018427387904->(∀x∈q,CP Y g (fs++[.d (f x)]++cs) (B (p x))) ->
  (idx p q = -1->k (.exit 0) [] [])->(∀i:Nat,idx p q=i->k .ret [I (a.length+i:Nat)] []) ->
  lp (dZ (CX Y) (lst f (a++q)) (.fn g fs cs) (I (a++q).length)) [] [] [I a.length] [] k
 | [],a,hN,_,h0,_=>by
  refine ai ?_;simp[dZ];exact h0 rfl
 | x::q,a,hN,hp,h0,h1=>by
  simp at hN;refine ai ?_;simp(disch:=try exact ac)[dZ];refine cdf (hp x af) (hs x) ?_;simp;refine oB (fun h=>?_) (fun h=>?_)<;>try simp(disch:=try exact ac)[h]
  .have e:idx p (x::q)=(0:Nat):=by simp[idx,List.findIdx?_cons,h]
   simpa using h1 0 e
  .have hl:=hs;have:=KW hs k q (a++[x]) ak (fun y hy=>hp y (by simp[hy])) (fun e=>h0 ?_) (fun i e=>?_)
   .simpa[Int.add_assoc]using this
   .simp only[idx,List.findIdx?_cons,h,Zi,if_false]at e ⊢;cases hq:List.findIdx? p q<;>simp[hq]at e ⊢
   .have:=h1 (i+1) ?_
    .simpa[Nat.add_assoc,Yf 1 i]using this
    .simp only[idx,List.findIdx?_cons,h,Zi,if_false]at e ⊢;cases hq:List.findIdx? p q<;>simp[hq]at e ⊢
     exact e
theorem VZ(l:List α)(hN:l.length<4611686018427387904)(hs:∀x,av [] (fs++[.d (f x)]++cs)=some (fs++[.d (f x)]++cs,[]))(hp:∀x∈l,CP Y g (fs++[.d (f x)]++cs) (B (p x))):
  bp (CX Y) (lst f l) (.fn g fs cs) (out (I (idx p l))):=by
 simp[bp];refine lo (KW hs _ l [] (by simpa using hN) hp (fun e=>?_) (fun i e=>?_))
 .simp[e]
 .simp[e]
theorem IC{α:Type}(p:α->Bool)(l:List α):0<=idx p l↔l.any p=true:=by
 unfold idx;cases h:l.findIdx? p with
 |none=>simp[List.findIdx?_eq_none_iff]at h ⊢;exact h
 | some i=>
  simp[List.findIdx?_eq_some_iff_getElem]at h ⊢;obtain⟨hi,h1,_⟩:=h;exact⟨l[i],List.getElem_mem hi,h1⟩
@[simp]theorem adL(h:Hp)(g:FuncId):aP h (.fn g [] [])=some (.fn g [] [],h):=by simp[aP,av]
theorem B6{g:FuncId}{p:Int->Bool}(l:LiQ)(hN:l.length<4611686018427387904)(hp:∀x∈l,CP Y g [I x] (B (p x))):CP Y F.bp [lst di l,.fn g [] []] (I (idx p l)):=
 qk (VZ l hN (fun x=>by simp[av]) hp)
theorem E3{g:FuncId}{p:Int->Bool}(l:LiQ)(hN:l.length<4611686018427387904)(hp:∀x∈l,CP Y g [I x] (B (p x))):CP Y F.bN [lst di l,.fn g [] []] (B (l.any p)):=by
 refine pE ?_;simp[bN];refine cd (B6 l hN hp) ?_;simp;have:=IC p l;have e:decide (0<=idx p l)=l.any p:=by rw[Ym];simpa using this
 rw[e];exact wP ..
def vA(n:Int):Bool:=decide (-1000000000<=n∧n<=1000000000)
def gD(r:LiQ):Bool:=r.all vA
def qb(m:LLQ):Bool:=decide (m.length<=12)&&m.all fun r=>decide (r.length=(m.headD []).length)&&decide (r.length<=12)&&gD r
theorem Sx(n:Int):CP Y F.ko [I n] (B (!vA n)):=by
 refine Ak ?_;simp(disch:=try exact ac)[ko];refine oB (fun h=>?_) (fun h=>?_)<;>try simp(disch:=try exact ac)[h]
 all_goals exact bL (by rw[Ym];simp[vA];omega)
theorem On(r:LiQ)(hr:r.length<4611686018427387904):CP Y F.kG [lst di r] (B (gD r)):=by
 refine Fa ?_;simp(disch:=try exact ac)[kG];refine cd (E3 r hr fun n _=>Sx n) ?_;simp(disch:=try exact ac);have e:gD r = !(r.any fun n=>!vA n):=by simp[gD,List.not_any_eq_all_not]
 rw[e];exact wP ..
theorem BZ(m0:LiQ)(M:LLQ)(k:KL):∀(q a:LLQ),(a++q).length<4611686018427387904->(∀r∈q,r.length<4611686018427387904)->m0.length<4611686018427387904 ->
  ((q.all fun r=>decide (r.length=m0.length)&&decide (r.length<=12)&&gD r)=true->k (.exit 0) [] []) ->
  ((q.all fun r=>decide (r.length=m0.length)&&decide (r.length<=12)&&gD r)=false->k .ret [B false] []) ->
  lp (kH (CX Y) (lst row (m0::M)) (lst row (a++q)) (I (a++q).length)) [] [] [I a.length] [] k
 | [],a,hN,_,_,h0,_=>by
  refine ai ?_;simp(disch:=try exact ac)[kH];exact h0 rfl
 | r::q,a,hN,hr,hm,h0,h1=>by
  simp at hN hr;refine ai ?_;simp(disch:=try exact ac)[kH];refine oB (fun h=>?_) (fun h=>?_)<;>try simp(disch:=try exact ac)[h]
  .refine oB (fun h2=>?_) (fun h2=>?_)<;>try simp(disch:=try exact ac)[h2]
   .refine cd (On r hr.1) ?_;simp(disch:=try exact ac)[h];by_cases h3:gD r=true<;>simp(disch:=try exact ac)[h3]
    .have:=BZ m0 M k q (a++[r]) ak hr.2 hm (fun e=>h0 ?_) (fun e=>h1 ?_)
     .simpa using this
     .have g1:r.length=m0.length:=aa;have g2:r.length<=12:=aa;simpa[g1,h3,g1▸g2]using e
     .have g1:r.length=m0.length:=aa;have g2:r.length<=12:=aa;simpa[g1,h3,g1▸g2]using e
    .exact h1 (by simp[h3])
   .have g2:¬r.length<=12:=aa;exact h1 (by simp[g2])
  .have g1:¬r.length=m0.length:=aa;exact h1 (by simp[g1])
theorem GT(m:LLQ)(hm:m.length<4611686018427387904)(hr:∀r∈m,r.length<4611686018427387904):CP Y F.jS [mat m] (B (qb m)):=by
 refine By ?_;simp(disch:=try exact ac)[jS,mat];refine oB (fun h=>?_) (fun h=>?_)<;>try simp(disch:=try exact ac)[h]
 .have g:¬m.length<=12:=aa;exact bL (by simp[qb,g])
 .have g:m.length<=12:=aa;cases m with
  | nil=>
   refine lo (ai ?_);simp(disch:=try exact ac)[kH];exact bL rfl
  | cons m0 M=>
   have e0:qb (m0::M)=(decide ((m0::M).length<=12)&&(m0::M).all fun r=>decide (r.length=m0.length)&&decide (r.length<=12)&&gD r):=rfl;refine lo (BZ m0 M _ (m0::M) [] hm hr (hr _ af) (fun e=>?_) (fun e=>?_))
   .simp only[fc];exact bL (by rw[e0,e];simpa using g)
   .simp only[sJ,vj];exact bL (by rw[e0,e,Xo])
def sO:LiQ->LiQ->Int
 |a::l,b::m=>a*b+sO l m
 |_,_=>0
theorem WH{k:Nat}(hk:k<2^40)(h:z.natAbs<W^k):fits z:=Zu (pj h) hk
theorem kS(h1 : -1000000000000000000000000<=z)(h2:z<=1000000000000000000000000):fits z:=WH (k:=3) ae (by grind[W])
theorem rQ{n:Int}:vA n=true↔-1000000000<=n∧n<=1000000000:=by simp[vA]
theorem Ou{b:Int}(ha:vA a=true)(hb:vA b=true): -1000000000000000000<=a*b∧a*b<=1000000000000000000:=by
 rw[rQ]at ha hb;have h1:=Zg (show a.natAbs<=1000000000 by omega) (show b.natAbs<=1000000000 by omega)
 grind[Nat.reduceMul]
theorem Li(k:KL)(b0:Nat×Bk)(h0:Hp)(hh:h0.length=2):∀(q:LiQ), ∀(r a b:LiQ)(s:Int)(n:Bool)(d:D),(a++q).length<=1000->a.length=b.length->q.length<=r.length->(∀n∈q,vA n=true)->(∀n∈r,vA n=true) ->
    (-(a.length*1000000000000000000:Int)<=s∧s<=a.length*1000000000000000000)->n=decide (s<0)->norm d=hQ s.natAbs ->
    (∀n d,n=decide (s+sO q r<0)->norm d=hQ (s+sO q r).natAbs->k (.exit 0) [] [b0,(1, .vars [.d (.bool n), .d d])]) ->
    lp (p9 (CX Y) (lst di (b++r)) (.ptr 1 1 0 2) (lst di (a++q)) (I (a++q).length)) [] h0 [I a.length] [b0,(1, .vars [.d (.bool n), .d d])] k
  | []=>by
    intro r a b s n d hN hl hr _ _ hs hn hd hk;refine ai ?_;simp(disch:=first|omega|(simp<;>omega)|fail) [p9];exact hk n d (by simp[hn,sO]) (by simp[hd,sO])
  | x::q=>by
    intro r a b s n d hN hl hr hx hy hs hn hd hk;cases r with
    |nil=>simp at hr
    |cons y r=>
    simp at hN hl hr hx hy;refine ai ?_;simp(disch:=first|omega|(simp<;>omega)|fail) [p9];have hx1:=rQ.1 hx.1;have hy1:=rQ.1 hy.1;have hm:=Ou hx.1 hy.1;refine cd (qp aa) ?_;simp(disch:=first|omega|(simp<;>omega)|fail) [hl];refine cd (qp aa) ?_;simp(disch:=first|omega|(simp<;>omega)|fail) []
    refine cd (wt (kS aa aa) (kS aa aa)) ?_;simp(disch:=first|omega|(simp<;>omega)|fail) [];refine cdx (ds:=[fH s,fH (x*y)]) (by simp[av,aP,hd,hn,fH,jZ]) (Fz (a:=s) (kS aa aa) (kS aa aa)) ?_
    simp(disch:=first|omega|(simp<;>omega)|fail) [fH,jZ]
    have:=Li k b0 h0 hh q r (a ++ [x]) (b ++ [y]) (s+x*y) _ (hQ (s+x*y).natAbs) ak (by simp[hl]) hr hx.2 hy.2 ak rfl rfl
      (by have e:s+sO (x::q) (y::r)=s+x*y+sO q r:=by simp[sO,Int.add_assoc]
          rw[e]at hk;exact hk)
    simpa[hl,hh]using this
theorem TP{a b:LiQ}(hN:a.length<=1000)(hl:a.length<=b.length)(ha:gD a=true)(hb:gD b=true):CP Y F.nM [lst di a,lst di b] (fH (sO a b)):=by simp only[gD,Zq]at ha hb;refine Ge ?_;simp(disch:=try exact ac)[nM];refine lo (Li _ _ _ rfl a b [] [] 0 _ _ (by simpa using hN) rfl hl ha hb af af (by simp[xy]) fun n d hn hd=>?_);simp(disch:=try exact ac);exact⟨_,by simp[aP,av,fH,jZ]at hn hd ⊢;exact⟨⟨hn,hd⟩,rfl⟩⟩
def xe(c:Nat)(m:LLQ):LiQ:=m.map fun r=>nth 0 r c
theorem Cc(c:Nat)(e:Nat)(b0:Bk)(h0:Hp)(hh:h0.length=1)(k:KL):∀(q:LLQ),∀(a:LLQ)(done:LiQ),(a++q).length<=1000->(∀r∈q,c<r.length)->done.length=a.length ->
  (k (.exit 0) [Acc.v ⟨0,e,1,b0⟩ (a++q).length ((done++xe c q).map di)] [Acc.b ⟨0,e,1,b0⟩ (a++q).length ((done++xe c q).map di)]) ->
  lp (nh (CX Y) (I c) (lst row (a++q)) (I (a++q).length)) [] h0 [Acc.v ⟨0,e,1,b0⟩ a.length (done.map di),I a.length] [Acc.b ⟨0,e,1,b0⟩ a.length (done.map di)] k
 | []=>by
  intro a done hN hc hd hk;refine ai ?_;simp(disch:=try exact ac)[nh];simpa[xe]using hk
 | r::q=>by
  intro a done hN hc hd hk;simp at hN hc;refine ai ?_;simp(disch:=try exact ac)[nh];simp only[fj,fS];simp(disch:=try exact ac)[hO,toD];refine rI ⟨0,e,1,b0⟩ (k:=1) (cs:=[di (nth 0 r c)]) aa af (by simp[hd]) af rfl af aa af ?_;simp(disch:=try exact ac)
  have:=Cc c e b0 h0 hh k q (a++[r]) (done++[nth 0 r c]) ak hc.2 (by simp[hd]) (by simpa[xe]using hk);simpa[hh]using this
theorem Qw(hN:m.length<=1000)(hc:∀r∈m,c<r.length):CP Y F.lN [mat m,I c] (lst di (xe c m)):=by refine BB ?_;simp(disch:=try exact ac)[lN,mat];refine lo (Cc c 0 .none _ rfl _ m [] [] hN hc rfl ?_);simp(disch:=try exact ac);have:=Jf ⟨0,0,1,.none⟩ (L:=m.length) (cells:=(xe c m).map di) (h:=[Acc.b ⟨0,0,1,.none⟩ m.length ((xe c m).map di)]) rfl (by simp[xe]);simpa[lst,xe]using this
def Im(m:LLQ)(k x:LiQ):Bool:=qb m&&decide (k.length=m.length)&&(decide (m.length=0)||decide (x.length=(m.headD []).length))&&gD k&&gD x&&(x.zipIdx.all fun e=>decide (sO k (xe e.2 m)=e.1))
theorem rP(hm:qb m=true)(r:LiQ)(hr:r∈m):r.length=(m.headD []).length∧r.length<=12∧gD r=true:=by grind[qb]
theorem Sq(hm:qb m=true)(h0:0<m.length):(m.headD []).length<=12:=by
 cases m with
 |nil=>simp at h0
 |cons r m=>exact(rP hm r af).2.1
theorem iO{α:Type}{d:α}{l:List α}{i:Nat}(h:i<l.length):nth d l i∈l:=by grind[gj]
theorem Ua(hm:qb m=true)(hc:∀r∈m,c<r.length):gD (xe c m)=true:=by grind[qb,gD,xe,iO]
theorem IK:∀(k l:LiQ),k.length<=1000->gD k=true->gD l=true->-(k.length*1000000000000000000:Int)<=sO k l∧sO k l<=k.length*1000000000000000000
 |[],_,_,_,_=>by simp[sO]
 |a::k,[],_,_,_=>by grind[sO]
 | a::k,b::l,hN,ha,hb=>by
  simp[gD]at ha hb hN;have:=IK k l aa (by grind[gD]) (by grind[gD]);have:=Ou ha.1 hb.1
  grind[sO]
theorem wV(m:LLQ)(ks:LiQ)(hm:qb m=true)(hk:gD ks=true)(hkm:ks.length=m.length)(k:KL):∀(q:LiQ),∀(a:LiQ),(∀r∈m,(a++q).length=r.length)->(a++q).length<=1000000->gD q=true ->
  ((q.zipIdx a.length).all (fun e=>decide (sO ks (xe e.2 m)=e.1))=true->k (.exit 0) [] []) ->
  ((q.zipIdx a.length).all (fun e=>decide (sO ks (xe e.2 m)=e.1))=false->k .ret [B false] []) ->
  lp (nm (CX Y) (mat m) (lst di ks) (lst di (a++q)) (I (a++q).length)) [] [] [I a.length] [] k
 | []=>by
  intro a hr hN hq h0 h1;refine ai ?_;simp(disch:=try exact ac)[nm];exact h0 rfl
 | x::q=>by
  intro a hr hN hq h0 h1;simp at hN;simp only[gD,List.all_cons,Z8]at hq;have hl:m.length<=12:=by simp[qb]at hm;exact hm.1
  have hc:∀r∈m,a.length<r.length:=fun r hm=>by have:=hr r hm;simp at this;omega
  have hx:=rQ.1 hq.1;have hd:=IK ks (xe a.length m) aa hk (Ua hm hc);refine ai ?_;simp(disch:=try exact ac)[nm];refine cd (Qw aa hc) ?_ (by simp[av,mat]);simp(disch:=try exact ac);refine cd (TP aa (by simp[xe,hkm]) hk (Ua hm hc)) ?_;simp(disch:=try exact ac)
  refine cd (qp aa) ?_;simp(disch:=try exact ac);refine cd (K9 (kS aa aa) (kS aa aa)) ?_;simp(disch:=try exact ac);refine oB (fun h=>?_) (fun h=>?_)<;>try simp(disch:=try exact ac)[h]
  .exact h1 (by simp[h])
  .have e:sO ks (xe a.length m)=x:=by simpa using h
   have:=wV m ks hm hk hkm k q (a++[x]) (by simpa using hr) ak hq.2 (fun g=>h0 ?_) (fun g=>h1 ?_)
   .simpa using this
   .simpa[e]using g
   .simpa[e]using g
theorem P3{ks x:LiQ}(hxl:x.length<=1000000)(hN:m.length<4611686018427387904)(hr:∀r∈m,r.length<4611686018427387904)(hk:ks.length<4611686018427387904)(hx:x.length<4611686018427387904):
  CP Y F.lR [mat m,lst di ks,lst di x] (B (Im m ks x)):=by
 refine BE ?_;simp(disch:=try exact ac)[lR];refine cd (GT m hN hr) ?_ (by simp[av,mat]);simp(disch:=try exact ac)
 repeat' (first|(refine oB (fun h=>?_) (fun h=>?_)<;>try simp(disch:=try exact ac)[*])|(refine cd (On _ (by assumption)) ?_;simp(disch:=try exact ac)[*]))
 all_goals try simp only[Eb]at *
 all_goals first
  |(refine bL ?_;simp[Im, *];done)
  |(refine bL ?_;simp[Im, *];omega)
  |skip
 .rename_i hm hkm h0 hk1 hx1;rw[<-h];refine lo (wV m ks hm hk1 hkm _ x [] (fun r hr=>?_) ?_ (by simpa using hx1) (fun g=>?_) (fun g=>?_))
  .have:=(rP hm r hr).1;simp;omega
  .simp;simp[qb]at hm;have:=Sq (m:=m) (by simpa[qb]using hm) h0;omega
  .refine bL ?_;simp[Im, *]at g ⊢;exact g
  .refine bL ?_;simp only[Im,List.length_nil]at g ⊢;rw[g,Xo]
 .rename_i hm hkm h0;refine bL ?_;have h1:¬m.length=0:=aa;simp only[Im,h,h1];simp
 .rename_i hm hkm h0 hk1;have hx1:=h;have e:m=[]:=Zt aa;subst e;refine lo (wV [] ks hm hk1 hkm _ x [] (fun r hr=>by cases hr) ?_ (by simpa using hx1) (fun g=>?_) (fun g=>?_))
  .simpa using hxl
  .refine bL ?_;simp[Im, *]at g ⊢;exact g
  .refine bL ?_;simp only[Im,List.length_nil]at g ⊢;rw[g,Xo]
def piv(r:LiQ):Int:=idx (fun n=>n !=0) r
theorem PT(n:Int):CP Y F.jJ [I n] (B (n !=0)):=by refine yN ?_;simp(disch:=try exact ac)[jJ];exact bL (by rw[Ym];simp)
theorem Si{r:LiQ}(hr:r.length<4611686018427387904):CP Y F.mN [lst di r] (I (piv r)):=by refine Cz ?_;simp(disch:=try exact ac)[mN];refine cd (B6 r hr fun n _=>PT n) ?_;exact cF rfl
theorem aax(r:LiQ): -1<=piv r∧piv r<r.length:=by
 unfold piv idx;cases h:r.findIdx? (fun n=>n !=0)with
 |none=>simp;omega
 |some i=>have:=(List.findIdx?_eq_some_iff_getElem.1 h).1;simp;omega
def Jy(p:Nat)(r:LiQ)(done:LLQ):Bool:=done.all fun o=>!(decide (nth 0 o p<0)||decide (nth 0 r p<=nth 0 o p))
def EH:Int->LLQ->LLQ->Bool
 |_,_,[]=>true
 |before,done,r::q=>if piv r<=before∨nth 0 r (piv r).toNat<=0 then false else if Jy (piv r).toNat r done=true then EH (piv r) (done++[r]) q else false
theorem Nw(p:Nat)(r:LiQ)(hp:p<r.length)(k:KL):∀(q:LLQ),∀a:LLQ,(a++q).length<=1000->(∀o∈q,p<o.length) ->
  (Jy p r q=true->k (.exit 2) [] [])->(Jy p r q=false->k .ret [B false] []) ->
  lp (o5 (CX Y) (lst di r) (I p) (lst row (a++q)) (I (a++q).length)) [] [] [I a.length] [] k
 | []=>by
  intro a hN hq h0 h1;refine ai ?_;simp(disch:=try exact ac)[o5];exact h0 rfl
 | o::q=>by
  intro a hN hq h0 h1;simp at hN hq;refine ai ?_;simp(disch:=try exact ac)[o5];refine oB (fun h=>?_) (fun h=>?_)<;>try simp(disch:=try exact ac)[h]
  .refine oB (fun h2=>?_) (fun h2=>?_)<;>try simp(disch:=try exact ac)[h2]
   .exact h1 (by simp[Jy,h2])
   .have:=Nw p r hp k q (a++[o]) ak hq.2 (fun g=>h0 ?_) (fun g=>h1 ?_)
    .simpa using this
    .simp[Jy]at g ⊢;exact⟨⟨aa,aa⟩,g⟩
    .simp only[Jy,List.all_cons,Xv];right;simpa[Jy]using g
  .exact h1 (by simp[Jy];omega)
theorem Hd(k:KL):∀(q:LLQ),∀(a:LLQ)(before:Int),-1<=before->(a++q).length<=1000->(∀r∈a++q,∀s∈a++q,r.length=s.length)->(∀r∈q,r.length<1000) ->
  (EH before a q=true->k (.exit 0) [] [])->(EH before a q=false->k .ret [B false] []) ->
  lp (o6 (CX Y) (lst row (a++q)) (lst row (a++q)) (I (a++q).length)) [] [] [I before,I a.length] [] k
 | []=>by
  intro a before hb hN hl hs h0 h1;refine ai ?_;simp(disch:=try exact ac)[o6];exact h0 rfl
 | r::q=>by
  intro a before hb hN hl hs h0 h1;simp at hN hs;have hp:=aax r;refine ai ?_;simp(disch:=try exact ac)[o6];refine cd (Si (r:=r) aa) ?_;simp only[EH]at h0 h1;by_cases hb1:piv r<=before
  .simp(disch:=try exact ac)[hb1];exact h1 (by simp[hb1])
  .obtain⟨p,hpp⟩:∃p:Nat,piv r=p:=⟨(piv r).toNat,aa⟩;have hpr:p<r.length:=aa;rw[hpp]at h0 h1 hb1 ⊢;by_cases h:nth 0 r p<=0
   .simp(disch:=try exact ac)[hb1,h];exact h1 (by simp[h])
   .simp(disch:=try exact ac)[hb1,h];refine lo (Nw p r hpr _ a [] ak (fun o ho=>?_) (fun g=>?_) (fun g=>?_))
    .have:=hl r af o (by simp[ho]);omega
    .simp(disch:=try exact ac);have:=Hd k q (a++[r]) p aa ak (by simpa using hl) hs.2 (fun e=>h0 ?_) (fun e=>h1 ?_)
     .simpa using this
     .simp[hb1,g,h];exact e
     .simp[g];intro _ _;exact e
    .simp(disch:=try exact ac);exact h1 (by simp[g])
def B7(m:LLQ):Bool:=qb m&&EH (-1) [] m
theorem WE(hN:m.length<4611686018427387904)(hr:∀r∈m,r.length<4611686018427387904):CP Y F.oz [mat m] (B (B7 m)):=by
 refine Fp ?_;simp(disch:=try exact ac)[oz];refine cd (GT m hN hr) ?_;by_cases h:qb m=true
 .simp(disch:=try exact ac)[h];have hl:m.length<=12:=by simp only[qb,Z8,decide_eq_true_eq]at h;exact h.1
  refine lo (Hd _ m [] (-1) aa ak (fun r hr s hs=>?_) (fun r hr=>?_) (fun g=>?_) (fun g=>?_))
  .rw[(rP h r hr).1,(rP h s hs).1]
  .have:=(rP h r hr).2.1;omega
  .simp(disch:=try exact ac);exact bL (by simp[B7,h,g])
  .simp(disch:=try exact ac);exact bL (by simp[B7,h,g])
 .simp(disch:=try exact ac)[h];exact bL (by simp[B7,h])
def Z:Nat:=1000000000
theorem ah:2<=Z:=ae
theorem aU:0<Z:=ae
def i9(n:Nat):D:=.int .i64 n
def bu(n:Nat):V:=lst i9 (dig Z n)
def bz(n:Nat):Nat:=(dig Z n).length
theorem rE{n k:Nat}(h:n<Z^k):bz n<=k:=(gZ ah).2 h
theorem FD(a b:LnQ)(hab:a.length=b.length)(hs:a.length<2^40)(k:KL):∀i:Nat,i<=a.length->(yv a b i=0->k (.exit 0) [] [])->(yv a b i≠0->k .ret [I (yv a b i)] []) ->
  lp (jX (CX Y) (lst i9 a) (lst i9 b)) [] [] [I ((i:Int)-1)] [] k
 | 0,_,h0,_=>by
  refine ai ?_;simp[jX];exact h0 rfl
 | i+1,hi,h0,h1=>by
  refine ai ?_;have ha:i<a.length:=aa;have hb:i<b.length:=aa;have h40:(2:Nat)^40=1099511627776:=ae;have e1:((i+1:Nat):Int)-1=i:=aa;simp only[jX,e1,iu,OX,aD,kE];rw[if_pos aa];simp only[jL i9 a [] rfl ha,jL i9 b [] rfl hb,sk i9 _ [] ha,sk i9 _ [] hb,aD,i9,np,I9,kE,Int.ofNat_lt]
  have ea:a.getD i 0=a[i]:=by simp[ha]
  have eb:b.getD i 0=b[i]:=by simp[hb]
  simp only[yv,ea,eb]at h0 h1;split
  .rename_i hlt;rw[if_pos hlt]at h1;exact h1 ae
  .rename_i hlt;rw[if_neg hlt]at h0 h1;split
   .rename_i hgt;rw[if_pos hgt]at h1;exact h1 ae
   .rename_i hgt;rw[if_neg hgt]at h0 h1;rw[Dz aa];simp only[aD,nF,clean_nil,true_and];exact FD a b hab hs k i aa h0 h1
theorem FC{a b:Nat}(ha:bz a<2^40)(hb:bz b<2^40):CP Y F.et [bu a,bu b] (I (cmp a b)):=by
 have h40:(2:Nat)^40=1099511627776:=ae;refine wE ?_;simp only[et,List.replicate,bu,nI,aD,OW,kE,np];by_cases hl:(dig Z a).length=(dig Z b).length
 .rw[if_neg aa];rw[Dz (by unfold bz at ha;omega)];simp only[aD];have ho:=CN aU (aJ ah a) (aJ ah b) (dig Z a).length (Z7 _) aa;rw[Yb,hl,Yb,bG ah,bG ah,<-hl]at ho;refine FD (dig Z a) (dig Z b) hl ha _ _ (Z7 _) (fun h0=>?_) (fun h0=>?_)
  .simp only[fc];rw[<-ho,h0];exact tj ..
  .simp only[sJ,vj,iu];rw[<-ho];exact tj ..
 .rw[if_pos aa];split
  .rename_i h;have:=vp ah (m:=a) (n:=b) aa;rw[show cmp a b = -1 by simp[cmp,this]];exact tj ..
  .rename_i h;have:=vp ah (m:=b) (n:=a) aa;rw[show cmp a b=1 by unfold cmp;rw[if_neg aa,if_pos this]];exact tj ..
theorem Lo{n:Nat}(h:0<n):dig Z n=n%Z::dig Z (n/Z):=by
 refine Ed aU (aJ ah n) ?_ (pT ah n) ?_ ?_
 .intro x hx;simp only[Zc]at hx;rcases hx with rfl|hx
  .exact Zk _ aU
  .exact aJ ah _ x hx
 .intro hne;by_cases hz:n/Z=0
  .have hm:n%Z=n:=Zj (by(have:=Nat.div_eq_zero_iff (a:=n) (b:=Z));grind[Z])
   grind[pS]
  .have hne2:dig Z (n/Z)≠[]:=fun e=>hz ((sQ ah).1 e)
   rw[Wr hne2];exact pT ah _ hne2
 simp[bG,val.eq_2,Yi,Z]
def ac1:Acc:=⟨0,0,1,.none⟩
def acH(d:LnQ):Hp:=[ac1.b d.length (d.map i9)]
def acV(d:LnQ):V:=ac1.v d.length (d.map i9)
theorem UF{d:LnQ}{x:Nat}{q:kkQ}{u:PU q}(hb:d.length<1000000000000)(hq:q (acV (d++[x])) (acH (d++[x]))):rh (apV false 0 1 8 (acV d) (.d (.sl 1 [i9 x])) (acH d)) q u:=by
 refine rI ac1 (k:=1) (cs:=[i9 x]) aa (by rfl) (by simp[ac1]) (by rfl) rfl af aa (by simp[ac1]) ?_
 grind[acV,acH,ac1]
theorem MA{a b:LnQ}(ha:aw Z a)(hb:aw Z b)(hla:a.length<1000000000)(hlb:b.length<1000000000){c i:Nat}(hc:c<=1)(hi:i<1000000002){d:LnQ}(hd:d.length=i)(q:Exit->LwQ->Hp->Prop)
  (hcase:i<a.length∨(¬i<a.length∧i<b.length)∨(¬i<a.length∧¬i<b.length∧0<c))
  (hq:q .normal [I ((c+a.getD i 0+b.getD i 0)/Z:Nat),acV (d++[(c+a.getD i 0+b.getD i 0)%Z]),I (i+1:Nat)] (acH (d++[(c+a.getD i 0+b.getD i 0)%Z]))) :
  ee (CX Y) (lst i9 a) (lst i9 b) [I c,acV d,I i] (acH d) q:=by
 have hxa:=ha.getD aU i;have hxb:=hb.getD aU i;simp only[Z]at hxa hxb hq;have hx0:¬i<a.length->a.getD i 0=0:=fun h=>by rw[Zz,List.getElem?_eq_none aa];rfl
 have hy0:¬i<b.length->b.getD i 0=0:=fun h=>by rw[Zz,List.getElem?_eq_none aa];rfl
 have nx:nth 0 a i=a.getD i 0:=rfl;have ny:nth 0 b i=b.getD i 0:=rfl;generalize a.getD i 0=x at *;generalize b.getD i 0=y at *
 have main:∀t:Bool,t=decide ((i:Int)<(a.length:Int))->jn (fun l13 h=>
   bnd (aj (lst i9 b)) fun v15=>
   bnd (biI .lss (I i) v15) fun v16=>
   jn (fun l17 h=>
    bnd (biI .rem (ge l17 0) (.d (.int .i64 1000000000))) fun v19=>
    eD 1 [.int .i64 0] [(0,v19)] h fun v20 h=>
    apV false 0 1 8 (acV d) v20 h fun v21 h=>
    bnd (biI .quo (ge l17 0) (.d (.int .i64 1000000000))) fun v22=>
    bnd (biI .add (I i) (.d (.int .i64 1))) fun v23=>
    q .normal [v22,v21,v23] h) fun q18=>
    cnd v16 (
     bnd (ixV h 1 (lst i9 b) (I i)) fun v24=>
     bnd (ld1 h v24) fun v25=>
     bnd (biI .add (ge l13 0) v25) fun v26=>
     q18 [v26] h) (
     q18 [(ge l13 0)] h)) fun q14=>
   cnd (.d (.bool t)) (
    bnd (ixV (acH d) 1 (lst i9 a) (I i)) fun v27=>
    bnd (ld1 (acH d) v27) fun v28=>
    bnd (biI .add (I c) v28) fun v29=>
    q14 [v29] (acH d)) (
    q14 [I c] (acH d)):=by
  intro t ht;subst ht;simp(disch:=try exact ac);refine dy (l:=[I (c+x:Nat)]) (h:=acH d) (fun q=>?_) ?_
  .by_cases h:i<a.length
   .simp(disch:=try exact ac)[h];rw[lC i9 0 a _ h,nx];simp(disch:=try exact ac)[i9]
   .have:=hx0 h;subst this;simp(disch:=try exact ac)[h]
  simp(disch:=try exact ac);refine dy (l:=[I (c+x+y:Nat)]) (h:=acH d) (fun q=>?_) ?_
  .by_cases h:i<b.length
   .simp(disch:=try exact ac)[h];rw[lC i9 0 b _ h,ny];simp(disch:=try exact ac)[i9]
   .have:=hy0 h;subst this;simp(disch:=try exact ac)[h]
  simp(disch:=try exact ac)[Z4,Z1]
  have hl:fj 1 [D.int IntKind.i64 0] [(0,V.d (D.int IntKind.i64 (((c:Int)+x+y)%1000000000)))] (acH d)=some ([i9 ((c+x+y)%1000000000)],acH d):=by
   simp[fj,i9,fS,hO,toD]
  rw[hl];simp(disch:=try exact ac);refine UF aa ?_;simp(disch:=try exact ac)[Z4,Z1];simpa using hq
 rcases hcase with c1|⟨c1,c2⟩|⟨c1,c2,c3⟩
 .simp(disch:=try exact ac)[ee,c1];exact main _ ak
 .simp(disch:=try exact ac)[ee,c1,c2];exact main _ ak
 .simp(disch:=try exact ac)[ee,c1,c2,c3];exact main _ ak
theorem PY{l:LnQ}(h:uL l)(i:Nat):uL (l.drop i):=by
 intro hne;have hl:l≠[]:=fun e=>hne (by simp[e])
 rw[List.getLast_drop];exact h hl
theorem B9{l:LnQ}(h:uL l){i:Nat}(hi:i<l.length):val Z (l.drop i)≠0:=
 tn (PY h i) (fun e=>by have:=congrArg List.length e;grind) aU
theorem MB{a b:LnQ}(ha:aw Z a)(hb:aw Z b)(na:uL a)(nb:uL b)(M:Nat)(hla:a.length<=M)(hlb:b.length<=M)(hM:M<1000000000)(k:KL)(h0:Hp)(hh:h0.length=1):
  ∀(R c i:Nat)(d:LnQ),R=val Z (a.drop i)+val Z (b.drop i)+c->c<=1->d.length=i->(i<=M∨(i=M+1∧c=0))->k (.exit 0) [acV (d++dig Z R)] (acH (d++dig Z R)) ->
  lp (ee (CX Y) (lst i9 a) (lst i9 b)) [] h0 [I c,acV d,I i] (acH d) k:=by
 intro R
 induction R using Nat.strongRecOn with
 | _ R ih=>
  intro c i d hR hc hd hi hk;refine ai ?_;by_cases hz:R=0
  .have g1:¬i<a.length:=fun h=>B9 na h aa
   have g2:¬i<b.length:=fun h=>B9 nb h aa
   have g3:c=0:=aa;subst hz g3;simp(disch:=try exact ac)[ee,g1,g2];simpa[pS]using hk
  ·have hcase:i<a.length∨(¬i<a.length∧i<b.length)∨(¬i<a.length∧¬i<b.length∧0<c):=by
    by_cases g1:i<a.length
    .exact .inl g1
    .by_cases g2:i<b.length
     .exact .inr (.inl ⟨g1,g2⟩)
     .refine .inr (.inr ⟨g1,g2,?_⟩);rw[Zv aa,Zv aa]at hR;simp only[val]at hR;omega
   have hxa:=ha.getD aU i;have hxb:=hb.getD aU i;have hx0:¬i<a.length->a.getD i 0=0:=fun h=>by rw[Zz,List.getElem?_eq_none aa];rfl
   have hy0:¬i<b.length->b.getD i 0=0:=fun h=>by rw[Zz,List.getElem?_eq_none aa];rfl
   refine MA ha hb aa aa hc aa hd _ hcase ?_;simp only[nF,clean_nil,true_and];rw[pz 0 h0 _ (by simp[acH,hh])];rw[eV a i,eV b i]at hR;generalize a.getD i 0=x at *;generalize b.getD i 0=y at *;generalize hAA:val Z (a.drop (i+1))=A at *;generalize hBB:val Z (b.drop (i+1))=B at *;have hZ:Z=1000000000:=rfl
   have hmod:R%Z=(c+x+y)%Z:=by simp only[hZ]at *;omega
   have hdiv:R/Z=A+B+(c+x+y)/Z:=by simp only[hZ]at *;omega
   refine ih (R/Z) (Nat.div_lt_self aa ae) _ _ _ (by rw[hdiv,hAA,hBB]) (by simp only[hZ]at *;omega) (by simp[hd]) ?_ ?_
   .simp only[hZ]at *;omega
   .rw[<-hmod];rw[Lo aa]at hk;simpa using hk
theorem Sf{a b:Nat}(ha:bz a<1000000000)(hb:bz b<1000000000):CP Y F.iI [bu a,bu b] (bu (a+b)):=by
 refine xO ?_;unfold iI;refine MB (aJ ah a) (aJ ah b) (pT ah a) (pT ah b) (max (bz a) (bz b)) (by unfold bz;omega) (by unfold bz;omega) aa _ _ rfl (a+b) 0 0 [] (by simp[bG ah]) aa rfl aa ?_;simp(disch:=try exact ac)
 exact Jf ac1 (h:=acH (dig Z (a+b))) (L:=(dig Z (a+b)).length) (cells:=(dig Z (a+b)).map i9) rfl (by simp[ac1])
theorem KA{a b:LnQ}(ha:aw Z a)(hb:aw Z b)(hla:a.length<1000000000)(hlb:b.length<=a.length)(k:KL)(h0:Hp)(hh:h0.length=1):
  ∀(r c i:Nat)(d:LnQ),i+r=a.length->c<=1->d.length=i->aw Z d->val Z (b.drop i)+c<=val Z (a.drop i) ->
  (∀d':LnQ,d'.length=a.length->aw Z d'->val Z d'=val Z d+Z^i*(val Z (a.drop i)-val Z (b.drop i)-c)->k (.exit 0) [acV d'] (acH d')) ->
  lp (jW (CX Y) (lst i9 a) (lst i9 b)) [] h0 [I c,acV d,I i] (acH d) k:=by
 intro r
 induction r with
 | zero=>
  intro c i d hi hc hd hs hle hk;refine ai ?_;have g:¬i<a.length:=aa;simp(disch:=try exact ac)[jW,g];have e1:a.drop i=[]:=Zv aa;have e2:b.drop i=[]:=Zv aa;exact hk d aa hs (by rw[e1,e2];simp[val])
 | succ r ih=>
  intro c i d hi hc hd hs hle hk;refine ai ?_;have g:i<a.length:=aa;have hxa:=ha.getD aU i;have hxb:=hb.getD aU i;have hy0:¬i<b.length->b.getD i 0=0:=fun h=>by rw[Zz,List.getElem?_eq_none aa];rfl
  have nx:nth 0 a i=a.getD i 0:=rfl;have ny:nth 0 b i=b.getD i 0:=rfl;rw[eV a i,eV b i]at hle;simp only[eV a i,eV b i]at hk;generalize a.getD i 0=x at *;generalize b.getD i 0=y at *;simp only[Z]at hxa hxb;simp(disch:=try exact ac)[jW,g];rw[lC i9 0 a _ g,nx];simp(disch:=try exact ac)[i9]
  refine dy (l:=[I ((x:Int)-c-y)]) (h:=acH d) (fun q=>?_) ?_
  .by_cases h:i<b.length
   .simp(disch:=try exact ac)[h];rw[lC i9 0 b _ h,ny];simp(disch:=try exact ac)[i9]
   .have:=hy0 h;subst this;simp(disch:=try exact ac)[h]
  simp(disch:=try exact ac)
  obtain ⟨e,c',hc',he,hec⟩:∃e c':Nat,c'<=1∧e<1000000000∧((x<c+y∧c'=1∧e+c+y=x+1000000000)∨(¬x<c+y∧c'=0∧e+c+y=x)):=by
   by_cases h:x<c+y
   .exact⟨x+1000000000-c-y,1,aa,aa,.inl ⟨h,rfl,aa⟩⟩
   .exact⟨x-c-y,0,aa,aa,.inr ⟨h,rfl,aa⟩⟩
  refine dy (l:=[I e,I c']) (h:=acH d) (fun q=>?_) ?_
  .rcases hec with⟨h1,rfl,h2⟩|⟨h1,rfl,h2⟩
   .have e1:((x:Int)-c-y+1000000000)=e:=aa;simp(disch:=try exact ac)[show(x:Int)-c-y<0 by omega,e1]
   .have e1:((x:Int)-c-y)=e:=aa;simp(disch:=try exact ac)[show ¬(x:Int)-c-y<0 by omega,e1]
  simp(disch:=try exact ac)
  have hl:fj 1 [D.int IntKind.i64 0] [(0,I e)] (acH d)=some ([i9 e],acH d):=by
   simp[fj,i9,fS,hO,toD]
  rw[hl];simp(disch:=try exact ac);refine UF aa ?_;simp(disch:=try exact ac);rw[pz 0 h0 _ (by simp[acH,hh]),show((i:Int)+1)=((i+1:Nat):Int) by omega];generalize hAA:val Z (a.drop (i+1))=A at *;generalize hBB:val Z (b.drop (i+1))=B at *;have hZ:Z=1000000000:=rfl
  refine ih c' (i+1) (d++[e]) aa hc' (by simp[hd]) (hs.snoc he) ?_ ?_
  .rw[hAA,hBB];simp only[hZ]at *;omega
  .intro d' h1 h2 h3;refine hk d' h1 h2 ?_;rw[h3,kq,hd,Nat.pow_succ,Nat.mul_assoc,Nat.add_assoc,<-Nat.mul_add,hAA,hBB];congr 2;simp only[hZ]at *;omega
def bv:Nat->Nat->LnQ
 |0,_=>[]
 |w+1,n=>n%Z::bv w (n/Z)
theorem c9:∀w n,(bv w n).length=w
 |0,_=>rfl
 |w+1,n=>by simp[bv,c9 w]
theorem sF:∀w n,aw Z (bv w n)
 |0,_=>fun x hx=>by simp[bv]at hx
 | w+1,n=>fun x hx=>by
  simp only[bv,Zc]at hx;rcases hx with rfl|hx
  .exact Zk _ aU
  .exact sF w _ x hx
theorem um:∀w n,n<Z^w->val Z (bv w n)=n
 |0,n,h=>by simp at h;subst h;rfl
 | w+1,n,h=>by
  have hZ:Z=1000000000:=rfl;simp only[bv,val];rw[um w (n/Z) (Y8 (by rw[Nat.pow_succ,Zw]at h;exact h))];have:=Yi n Z;omega
theorem zR:∀l:LnQ,aw Z l->l=bv l.length (val Z l)
 |[],_=>rfl
 | x::l,h=>by
  have hx:x<Z:=h x af;have hl:=zR l (fun y hy=>h y (by simp[hy]));have hZ:Z=1000000000:=rfl;simp only[List.length_cons,bv,val];have e1:(x+Z*val Z l)%Z=x:=by rw[Ya];exact Zj hx
  have e2:(x+Z*val Z l)/Z=val Z l:=by rw[Yx _ _ aU,Zh hx,Zn]
  rw[e1,e2,<-hl]
theorem AW{a b:Nat}(hba:b<=a)(ha:bz a<1000000000):CP Y F.ef [bu a,bu b] (lst i9 (bv (bz a) (a-b))):=by
 have hlen:bz b<=bz a:=by
  unfold bz;refine(gZ ah).2 ?_;exact Zu hba ((gZ ah (n:=a)).1 (Z7 _))
 refine wD ?_;unfold ef;refine KA (aJ ah a) (aJ ah b) ha hlen _ _ rfl (bz a) 0 0 [] (by unfold bz;omega) aa rfl (fun x hx=>by simp at hx) (by simpa[bG ah]using hba) fun d h1 h2 h3=>?_
 have e:d=bv (bz a) (a-b):=by
  have:=zR d h2;rw[h1,h3]at this;simpa[val,bG ah,bz]using this
 simp(disch:=try exact ac);rw[<-e];exact Jf ac1 (h:=acH d) (L:=d.length) (cells:=d.map i9) rfl (by simp[ac1])
abbrev S(s:LuQ):V:=.d (.str s)
@[simp]theorem Iy(s:LuQ):ij (S s)=some (I s.length):=id rfl
@[simp] theorem aeG (s:LuQ){j:Int}(h0:0<=j)(h1:j<=s.length):slS (S s) none (some (I j))=some (S (s.take j.toNat)):=by simp only[slS,boV];rw[if_pos ⟨h0,aa⟩];simp
@[simp] theorem aeF (s:LuQ)(h0:0<=i)(h1:i<=s.length):slS (S s) (some (I i)) none=some (S (s.drop i.toNat)):=by simp only[slS,boV];rw[if_pos ⟨h0,aa⟩];simp only;rw[Z0 af]
@[simp]theorem aek(a b:LuQ):biS .eql (S a) (S b)=some (.d (.bool (a == b))):=id rfl
@[simp]theorem aej(a b:LuQ):biS .neq (S a) (S b)=some (.d (.bool (!(a == b)))):=id rfl
@[simp]theorem XW(a b:LuQ)(h:a.length+b.length<=9223372036854775807):biS .add (S a) (S b)=some (S (a++b)):=by simp[biS,Mj,h]
theorem MU(s:LuQ){x:UInt8}(h0:0<=i)(h:s[i.toNat]?=some x):ixS (S s) (.d (.int k i))=some (.d (.int .u8 x.toNat)):=by simp only[ixS];rw[if_pos h0,h]
theorem fw{a b:LuQ}{h:Hp}(e:b=a):out (S a) (S b) h:=by subst e;exact Sm rfl
theorem ID(s p:LuQ):CP Y F.strings_HasPrefix [S s,S p] (B (p.isPrefixOf s)):=by
 refine xL ?_;simp(disch:=try exact ac)[strings_HasPrefix];refine cd (v:=B (p.isPrefixOf s)) (sZ ?_) ?_
 .simp(disch:=try exact ac)[fV];by_cases h:p.length<=s.length
  .simp(disch:=try exact ac)[h];refine bL ?_;rw[Ym,beq_iff_eq,List.isPrefixOf_iff_prefix,List.prefix_iff_eq_take];exact eq_comm
  .simp(disch:=try exact ac)[h];refine bL ?_;symm;rw[Bool.eq_false_iff];intro hp;rw[List.isPrefixOf_iff_prefix]at hp;exact h hp.length_le
 .simp(disch:=try exact ac)
theorem Ul(b:Bool):CP Y F.gP [B b] (I (if b=true then 1 else 0)):=by refine vP ?_;cases b<;>simp[gP]
theorem SJ{x:Nat}(h:x<=64):CP Y F.gO [I x] (I ((x*78913/262144:Nat):Int)):=by refine vO ?_;simp(disch:=try exact ac)[gO]
def eY(n:Nat):Nat:=if n=0 then 0 else n.log2+1
theorem yy{n k:Nat}(h:2^k<=n):eY n=eY (n/2^k)+k:=by
 have hp:0<2^k:=Yq ae;have h0:n≠0:=aa;have h1:n/2^k≠0:=by have:=Nat.div_pos h hp;omega
 simp only[eY,h0,h1,if_false]
 have e:n.log2=(n/2^k).log2+k:=by
  rw[Nat.log2_eq_iff h0];have h2:=(Nat.log2_eq_iff h1).1 rfl;constructor
  .rw[Zr];exact Zs (Zx _ h2.1) (X0 n _)
  .have:n/2^k+1<=2^((n/2^k).log2+1):=h2.2
   have h3:n<(n/2^k+1)*2^k:=by
    have:=Nat.lt_mul_div_succ n hp;rw[Zw];exact this
   have h4:=Zx (2^k) this;rw[<-Zr]at h4;rw[show(n/2^k).log2+k+1=(n/2^k).log2+1+k by omega];omega
 omega
def YW:LuQ:=[0,1,2,2,3,3,3,3,4,4,4,4,4,4,4,4,5,5,5,5,5,5,5,5,5,5,5,5,5,5,5,5,6,6,6,6,6,6,6,6,6,6,6,6,6,6,6,6,6,6,6,6,6,6,6,6,6,6,6,6,6,6,6,6]++(List.replicate 64 7++List.replicate 128 8)
theorem len8:∀x:Fin 256,YW[x.val]?=some (UInt8.ofNat (eY x.val)):=b9
theorem P7{x:Nat}{a:Nat}{n:Nat}(hx:x<256)(hn:eY n=eY x+a)(ha:a<=56){h:Hp}:
  (bnd (cvI .u8 (.d (.int .u64 x))) fun v10=>bnd (ixS (S YW) v10) fun v11=>
   bnd (cvI .i64 v11) fun v12=>bnd (biI .add (I a) v12) fun v13=>out (I (eY n)) v13 h):=by
 have hb:eY x<=8:=by
  unfold eY;split
  .omega
  .rename_i h0;have:=(Nat.log2_lt h0 (k:=8)).2 aa;omega
 have h8:=len8 ⟨x,hx⟩;simp(disch:=try exact ac);rw[MU _ aa (x:=UInt8.ofNat (eY x)) (by simpa using h8)];have e:(UInt8.ofNat (eY x)).toNat=eY x:=by simp;omega
 simp(disch:=try exact ac)[e];exact cF aa
set_option maxRecDepth 20000 in
theorem Eo{n:Nat}(h:n<18446744073709551616):CP Y F.fG [.d (.int .u64 n)] (I (eY n)):=by
 refine zz ?_
 obtain ⟨x1,a1,hx1,he1,ha1,h1⟩:∃x1 a1:Nat,x1<4294967296∧eY n=eY x1+a1∧a1<=32∧((4294967296<=n∧x1=n/4294967296∧a1=32)∨(n<4294967296∧x1=n∧a1=0)):=by
  by_cases hh:4294967296<=n
  .exact⟨n/4294967296,32,aa,yy (k:=32) hh,aa,.inl ⟨hh,rfl,rfl⟩⟩
  .exact⟨n,0,aa,rfl,aa,.inr ⟨aa,rfl,rfl⟩⟩
 obtain ⟨x2,a2,hx2,he2,ha2,h2⟩:∃x2 a2:Nat,x2<65536∧eY n=eY x2+a2∧a2<=48∧((65536<=x1∧x2=x1/65536∧a2=a1+16)∨(x1<65536∧x2=x1∧a2=a1)):=by
  by_cases hh:65536<=x1
  .exact⟨x1/65536,a1+16,aa,by(have:=yy (n:=x1) (k:=16) hh;simp only[Nat.reducePow]at this;omega),aa,.inl ⟨hh,rfl,rfl⟩⟩
  .exact⟨x1,a1,aa,he1,aa,.inr ⟨aa,rfl,rfl⟩⟩
 obtain ⟨x3,a3,hx3,he3,ha3,h3⟩:∃x3 a3:Nat,x3<256∧eY n=eY x3+a3∧a3<=56∧((256<=x2∧x3=x2/256∧a3=a2+8)∨(x2<256∧x3=x2∧a3=a2)):=by
  by_cases hh:256<=x2
  .exact⟨x2/256,a2+8,aa,by(have:=yy (n:=x2) (k:=8) hh;simp only[Nat.reducePow]at this;omega),aa,.inl ⟨hh,rfl,rfl⟩⟩
  .exact⟨x2,a2,aa,he2,aa,.inr ⟨aa,rfl,rfl⟩⟩
 simp[fG];have key:=P7 (h:=[]) hx3 he3 ha3;refine dy (l:=[.d (.int .u64 x1),I a1]) (h:=[]) (fun q=>?_) ?_
 .rcases h1 with⟨g,rfl,rfl⟩|⟨g,rfl,rfl⟩<;>simp(disch:=try exact ac)[g]
 simp;refine dy (l:=[.d (.int .u64 x2),I a2]) (h:=[]) (fun q=>?_) ?_
 .rcases h2 with⟨g,rfl,rfl⟩|⟨g,rfl,rfl⟩<;>simp(disch:=try exact ac)[g]
 simp;refine dy (l:=[.d (.int .u64 x3),I a3]) (h:=[]) (fun q=>?_) ?_
 .rcases h3 with⟨g,rfl,rfl⟩|⟨g,rfl,rfl⟩<;>simp(disch:=try exact ac)[g]
 exact key
theorem Vl:J7=(List.range 20).map fun i=>D.int .u64 ((10^i:Nat):Int):=by simp only[J7,List.range,List.range.loop,List.map];rfl
theorem aav{i:Nat}(h:i<20):J7[i]?=some (.int .u64 ((10^i:Nat):Int)):=by rw[Vl,List.getElem?_map,List.getElem?_range h];rfl
theorem aaZ:gl oH=.dptr J7 0:=by unfold gl;rfl
theorem aaI:∀b:Fin 65,1<=b.val->(10^(b.val*78913/262144)<=2^b.val∧2^b.val<=10^(b.val*78913/262144+1)∧(b.val*78913/262144=0∨10^(b.val*78913/262144-1)<2^(b.val-1))∧b.val*78913/262144<20):=b9
theorem Ij{n:Nat}(h:0<n):2^(eY n-1)<=n∧n<2^eY n∧1<=eY n:=by have h0:n≠0:=aa;have:=(Nat.log2_eq_iff h0).1 rfl;simp only[eY,h0,if_false];exact⟨this.1,this.2,aa⟩
theorem zu{n:Nat}(h1:10^(d-1)<=n)(h2:n<10^d)(hd:1<=d)(h:n<18446744073709551616):CP Y F.dK [.d (.int .u64 n)] (I d):=by
 have h0:0<n:=Z3 (Yq ae) h1;obtain⟨b1,b2,b3⟩:=Ij h0
 have hb:eY n<=64:=by
  unfold eY;split
  .omega
  .rename_i hz;have:=(Nat.log2_lt hz (k:=64)).2 (by simpa using h);omega
 obtain⟨t1,t2,t3,t4⟩:=aaI ⟨eY n,aa⟩ b3;simp only at t1 t2 t3 t4;refine vN ?_;simp[dK];refine cd (Eo h) ?_;simp;refine cd (SJ hb) ?_;generalize hk:eY n*78913/262144=k at *;have hg:gl oH=.dptr J7 0:=aaZ;simp(disch:=try exact ac)[hg];rw[ac5 _ _ _ (aav t4)]
 have hpk:10^(k+1)=10*10^k:=by rw[Nat.pow_succ,Zw]
 have hpd:10^d=10*10^(d-1):=by
  obtain⟨e,rfl⟩:∃e,d=e+1:=⟨d-1,aa⟩;rw[Nat.pow_succ,Zw];rfl
 have a1:10^k<=n->d=k+1:=fun hc=>by
  have a1:k<d:=(X8 (a:=10) ae).1 aa;have a2:d-1<k+1:=(X8 (a:=10) ae).1 aa;omega
 have a2:¬10^k<=n->d=k:=fun hc=>by
  have hk1:1<=k:=by
   rcases Zl k with e|e
   .subst e;simp at hc;omega
   .exact e
  have a1:d-1<k:=(X8 (a:=10) ae).1 aa
  have a2:k-1<d:=by
   rcases t3 with e|e
   .omega
   .exact(X8 (a:=10) ae).1 aa
  omega
 generalize 10^k=P at *;simp;refine cd (Ul (decide (P<=n))) ?_;by_cases hc:P<=n
 .have:=a1 hc;simp(disch:=try exact ac)[hc];exact cF aa
 .have:=a2 hc;simp(disch:=try exact ac)[hc];exact cF aa
def dg(n:Nat):UInt8:=UInt8.ofNat (48+n)
def co:Nat->Nat->LuQ
 |_,0=>[]
 |n,w+1=>co (n/10) w++[dg (n%10)]
theorem aS:∀(w n:Nat),(co n w).length=w
 |0,_=>rfl
 |w+1,n=>by simp[co,aS w]
def u8(b:UInt8):D:=.int .u8 b.toNat
def rt:LuQ:=[48,48,48,49,48,50,48,51,48,52,48,53,48,54,48,55,48,56,48,57,49,48,49,49,49,50,49,51,49,52,49,53,49,54,49,55,49,56,49,57,50,48,50,49,50,50,50,51,50,52,50,53,50,54,50,55,50,56,50,57,51,48,51,49,51,50,51,51,51,52,51,53,51,54,51,55,51,56,51,57,52,48,52,49,52,50,52,51,52,52,52,53,52,54,52,55,52,56,52,57,53,48,53,49,53,50,53,51,53,52,53,53,53,54,53,55,53,56,53,57,54,48,54,49,54,50,54,51,54,52,54,53,54,54,54,55,54,56,54,57,55,48,55,49,55,50,55,51,55,52,55,53,55,54,55,55,55,56,55,57,56,48,56,49,56,50,56,51,56,52,56,53,56,54,56,55,56,56,56,57,57,48,57,49,57,50,57,51,57,52,57,53,57,54,57,55,57,56,57,57]
theorem HO:([48,48,48,49,48,50,48,51,48,52,48,53,48,54,48,55,48,56,48,57,49,48,49,49,49,50,49,51,49,52,49,53,49,54,49,55,49,56,49,57,50,48,50,49,50,50,50,51,50,52,50,53,50,54,50,55,50,56,50,57,51,48,51,49,51,50,51,51,51,52,51,53,51,54,51,55,51,56,51,57,52,48,52,49,52,50,52,51,52,52,52,53,52,54,52,55,52,56,52,57,53,48,53,49,53,50,53,51,53,52,53,53,53,54,53,55,53,56,53,57,54,48,54,49,54,50,54,51,54,52,54,53,54,54,54,55,54,56,54,57,55,48,55,49,55,50,55,51,55,52,55,53,55,54,55,55,55,56,55,57,56,48,56,49,56,50,56,51,56,52,56,53,56,54,56,55,56,56,56,57,57,48,57,49,57,50,57,51,57,52,57,53,57,54,57,55,57,56,57,57]:LuQ)=rt:=rfl
theorem Px:∀x:Fin 200,rt[x.val]?=some (dg (if x.val%2=0 then x.val/2/10 else x.val/2%10)):=b9
def smV(i:Int):D:=u8 (dg (if i%2=0 then i.toNat/2/10 else i.toNat/2%10))
@[simp] theorem abB (k:IntKind)(i:Int)(K:V->Prop)(u:PU K)(h0:0<=i)(h1:i<200):rn (bnd (ixS (.d (.str rt)) (.d (.int k i)))) K u=K (.d (smV i)):=by
 have h:=MU rt (k:=k) h0 (Px ⟨i.toNat,aa⟩);unfold rn;rw[show V.d (.str rt)=S rt from rfl,h]
 have e:(if i.toNat%2=0 then i.toNat/2/10 else i.toNat/2%10)=(if i%2=0 then i.toNat/2/10 else i.toNat/2%10):=by
  by_cases hc:i%2=0
  .rw[if_pos hc,if_pos aa]
  .rw[if_neg hc,if_neg aa]
 simp_all[smV,u8]
theorem aan{x:Nat}:smV (2*(x:Int))=u8 (dg (x/10)):=by grind[smV]
theorem aam{x:Nat}:smV (2*(x:Int)+1)=u8 (dg (x%10)):=by grind[smV]
theorem EX(n w:Nat):co n (w+2)=co (n/100) w++[dg (n%100/10),dg (n%100%10)]:=by
 simp only[co,List.append_assoc,List.singleton_append];rw[Ze];have e1:n/10%10=n%100/10:=aa;have e2:n%10=n%100%10:=aa
 grind
theorem acY{α:Type}:∀(l:List α),l.length=8->∃c0 c1 c2 c3 c4 c5 c6 c7,l=[c0,c1,c2,c3,c4,c5,c6,c7]
 |[c0,c1,c2,c3,c4,c5,c6,c7],_=>⟨c0,c1,c2,c3,c4,c5,c6,c7,rfl⟩
 |[],h|[_],h|[_,_],h|[_,_,_],h|[_,_,_,_],h|[_,_,_,_,_],h|[_,_,_,_,_,_],h|[_,_,_,_,_,_,_],h=>by simp at h
 |_::_::_::_::_::_::_::_::_::_,h=>by simp at h
@[simp]theorem acW(s e off len cap tot:Nat):aj (.ref s e off len cap tot)=some (I len):=rfl
theorem aeI(B:LdQ)(c0 c1 c2 c3 c4 c5 c6 c7 x0 x1 x2 x3 x4 x5 x6 x7:D){i1 i2 i3 i4 i5 i6 i7:Nat}
  (h1:i1=1) (h2:i2=2) (h3:i3=3) (h4:i4=4) (h5:i5=5) (h6:i6=6) (h7:i7=7) :
  ((((((((c0::c1::c2::c3::c4::c5::c6::c7::B).set i7 x7).set i6 x6).set i5 x5).set i4 x4).set i3 x3).set i2 x2).set i1 x1).set 0 x0=x0::x1::x2::x3::x4::x5::x6::x7::B:=by simp_all
theorem aeJ(B:LdQ)(c0 c1 c2 c3 x0 x1 x2 x3:D){i2 i3:Nat}(h1:i1=1)(h2:i2=2)(h3:i3=3):
  ((((c0::c1::c2::c3::B).set i3 x3).set i2 x2).set i1 x1).set 0 x0=x0::x1::x2::x3::B:=by grind
theorem set2(B:LdQ)(c0 c1 x0 x1:D)(h1:i1=1):((c0::c1::B).set i1 x1).set 0 x0=x0::x1::B:=by grind
@[simp]theorem acL(i:Int):norm (smV i)=smV i:=rfl
theorem uQ{x:Nat}(h:i=2*(x:Int)+1):smV i=u8 (dg (x%10)):=by rw[h,aam]
theorem uR{x:Nat}(h:i=2*(x:Int)):smV i=u8 (dg (x/10)):=by rw[h,aan]
theorem adt(n w:Nat):co n (w+8)=co (n/100000000) w++[dg (n/1000000%100/10),dg (n/1000000%100%10),dg (n/10000%100/10),dg (n/10000%100%10),dg (n/100%100/10),dg (n/100%100%10),dg (n%100/10),dg (n%100%10)]:=by simp[EX,Ze]
theorem WI(h0:Hp)(hh:h0.length=2)(k:KL)(off len cap tot:Nat)(pre post:LdQ)(hpre:pre.length=off):∀(r nd n:Nat)(mid done:LdQ),nd<=r->mid.length=nd->nd+done.length=len->len<=24->tot=off+len+post.length ->
  n<10^nd->n<18446744073709551616 ->
  (∀(n' nd':Nat)(mid' done':LdQ),nd'<8->mid'.length=nd'->nd'+done'.length=len->n'<10^nd'->(co n' nd').map u8++done'=(co n nd).map u8++done->k (.exit 0) [.d (.int .u64 n'),I nd'] [(1,.data 1 (pre++(mid'++(done'++post))) true false),nnQ]) ->
  lp (fa (CX Y) 2 (.ref 0 1 off len cap tot)) [] h0 [.d (.int .u64 n),I nd] [(1,.data 1 (pre++(mid++(done++post))) true false),nnQ] k:=by
 intro r
 induction r with
 | zero=> 
  intro nd n mid done hr hm hd hl ht hn h64 hk;refine ai ?_;simp(disch:=try exact ac)[fa];exact hk n nd mid done aa hm hd hn rfl
 | succ r ih=>
  intro nd n mid done hr hm hd hl ht hn h64 hk;refine ai ?_;by_cases h8:8<=nd
  ·obtain ⟨m',c0,c1,c2,c3,c4,c5,c6,c7,rfl⟩:∃(m':LdQ)(c0 c1 c2 c3 c4 c5 c6 c7:D),mid=m'++[c0,c1,c2,c3,c4,c5,c6,c7]:=by
    obtain⟨c0,c1,c2,c3,c4,c5,c6,c7,e⟩:=acY (mid.drop (nd-8)) (by grind);exact⟨mid.take (nd-8),c0,c1,c2,c3,c4,c5,c6,c7,by rw[<-e,Ys]⟩
   have e0:pre++(m'++[c0,c1,c2,c3,c4,c5,c6,c7]++(done++post))=(pre++m')++c0::c1::c2::c3::c4::c5::c6::c7::(done++post):=af;rw[e0];simp only[Zo,List.length_cons,List.length_nil]at hm;have hA:(pre++m').length=off+nd-8:=by simp;omega
   have e9:∀x0 x1 x2 x3 x4 x5 x6 x7:D,(pre++m')++x0::x1::x2::x3::x4::x5::x6::x7::(done++post)=pre++(m'++((x0::x1::x2::x3::x4::x5::x6::x7::done)++post)):=by intros;simp
   generalize pre++m'=A at *;unfold fa;simp only[HO];simp(disch:=try exact ac)[Z4,Z1];rw[aeI _ _ _ _ _ _ _ _ _ _ _ _ _ _ _ _ _ aa aa aa aa aa aa aa,e9]
   rw[uQ (x:=n%100) (i:=(n:Int)%100*2+1) aa,uR (x:=n%100) (i:=(n:Int)%100*2) aa,uQ (x:=n/100%100) (i:=(n:Int)%10000/100*2+1) aa,uR (x:=n/100%100) (i:=(n:Int)%10000/100*2) aa,uQ (x:=n/10000%100) (i:=(n:Int)%100000000/10000%100*2+1) aa,uR (x:=n/10000%100) (i:=(n:Int)%100000000/10000%100*2) aa,uQ (x:=n/1000000%100) (i:=(n:Int)%100000000/10000/100*2+1) aa,uR (x:=n/1000000%100) (i:=(n:Int)%100000000/10000/100*2) aa]
   obtain⟨w,rfl⟩:∃w,nd=w+8:=⟨nd-8,aa⟩;have hd8:=adt n w;rw[show((w+8:Nat):Int)-8=(w:Nat) by omega,show(n:Int)/100000000=((n/100000000:Nat):Int) by omega]
   refine ih w (n/100000000) m' (u8 (dg (n/1000000%100/10))::u8 (dg (n/1000000%100%10))::u8 (dg (n/10000%100/10))::u8 (dg (n/10000%100%10))::u8 (dg (n/100%100/10))::u8 (dg (n/100%100%10))::u8 (dg (n%100/10))::u8 (dg (n%100%10))::done) aa aa ak hl ht ?_ aa ?_
   .grind
   .intro n' nd' mid' done' g1 g2 g3 g4 g5;refine hk n' nd' mid' done' g1 g2 g3 g4 ?_;rw[g5,hd8];simp
  .simp(disch:=try exact ac)[fa];exact hk n nd mid done aa hm hd hn rfl
theorem Ny{x:Nat}(h:x<10):u8 (dg x)=.int .u8 (48+x):=by unfold u8 dg;congr 1;simp;omega
theorem acZ{α:Type}:∀(l:List α),l.length=4->∃c0 c1 c2 c3,l=[c0,c1,c2,c3]
 |[c0,c1,c2,c3],_=>⟨c0,c1,c2,c3,rfl⟩
 |[],h|[_],h|[_,_],h|[_,_,_],h=>by simp at h
 |_::_::_::_::_::_,h=>by grind
theorem ac0{α:Type}:∀(l:List α),l.length=2->∃c0 c1,l=[c0,c1]
 |[c0,c1],_=>⟨c0,c1,rfl⟩
 |[],h|[_],h=>by simp at h
 |_::_::_::_,h=>by grind
theorem WJ(n nd:Nat)(mid B:LdQ)(h8:nd<8)(hm:mid.length=nd)(hn:n<10^nd):∃(n1 nd1:Nat)(mid1 B1:LdQ),nd1<4∧mid1.length=nd1∧n1<10^nd1∧nd1+B1.length=nd+B.length∧(co n1 nd1).map u8++B1=(co n nd).map u8++B ∧
  ((4<=nd∧n1=n/10000∧nd1=nd-4∧(∃c0 c1 c2 c3,mid=mid1++[c0,c1,c2,c3])∧B1=u8 (dg (n/100%100/10))::u8 (dg (n/100%100%10))::u8 (dg (n%100/10))::u8 (dg (n%100%10))::B)∨(¬4<=nd∧n1=n∧nd1=nd∧mid1=mid∧B1=B)):=by
 by_cases h4:4<=nd
 .obtain⟨w,rfl⟩:∃w,nd=w+4:=⟨nd-4,aa⟩;obtain⟨c0,c1,c2,c3,e⟩:=acZ (mid.drop w) (by grind);refine⟨n/10000,w,mid.take w,_,aa,by grind,?_,?_,?_,.inl ⟨h4,rfl,aa,⟨c0,c1,c2,c3,by rw[<-e,Ys]⟩,rfl⟩⟩
  .grind
  .grind
  simp[EX,Ze]
 .exact⟨n,nd,mid,B,aa,hm,hn,rfl,rfl,.inr ⟨h4,rfl,rfl,rfl,rfl⟩⟩
theorem aa6(n nd:Nat)(mid B:LdQ)(h8:nd<4)(hm:mid.length=nd)(hn:n<10^nd):∃(n1 nd1:Nat)(mid1 B1:LdQ),nd1<2∧mid1.length=nd1∧n1<10^nd1∧nd1+B1.length=nd+B.length∧(co n1 nd1).map u8++B1=(co n nd).map u8++B ∧
  ((2<=nd∧n1=n/100∧nd1=nd-2∧(∃c0 c1,mid=mid1++[c0,c1])∧B1=u8 (dg (n%100/10))::u8 (dg (n%100%10))::B)∨(¬2<=nd∧n1=n∧nd1=nd∧mid1=mid∧B1=B)):=by
 by_cases h4:2<=nd
 .obtain⟨w,rfl⟩:∃w,nd=w+2:=⟨nd-2,aa⟩;obtain⟨c0,c1,e⟩:=ac0 (mid.drop w) (by grind);refine⟨n/100,w,mid.take w,_,aa,by grind,?_,?_,?_,.inl ⟨h4,rfl,aa,⟨c0,c1,by rw[<-e,Ys]⟩,rfl⟩⟩
  .grind
  .grind
  simp[EX]
 .exact⟨n,nd,mid,B,aa,hm,hn,rfl,rfl,.inr ⟨h4,rfl,rfl,rfl,rfl⟩⟩
def fbH(pre mid B:LdQ):Hp:=[(1,.data 1 (pre++(mid++B)) true false),nnQ]
theorem ZB{off tot n:Nat}{pre mid post:LdQ}(hpre:pre.length=off)(hm:mid.length=d)(hd:d<=24)(ht:tot=off+d+post.length)(hn:n<10^d)(h64:n<18446744073709551616):
  CI Y F.bQ [.ref 0 1 off d cap tot,.d (.int .u64 n)] [(1,.data 1 (pre++(mid++post)) true false),nnQ] (.tup []) [(1,.data 1 (pre++((co n d).map u8++post)) true false),nnQ]:=by
 refine tG ?_;unfold bQ;simp only[HO];simp;refine lo (WI _ rfl _ off d cap tot pre post hpre d d n mid [] aa hm af hd ht hn h64 (fun n' nd mid' done g1 g2 g3 g4 g5=>?_));have hp8:10^nd<=10^7:=Z6 ae aa;simp only[Nat.reducePow]at hp8;simp(disch:=try exact ac)
 obtain⟨n1,d1,mid1,B1,f1,f2,f3,f4,f5,f6⟩:=WJ n' nd mid' (done++post) g1 g2 g4;refine dy (l:=[.d (.int .u32 n1),I d1]) (h:=fbH pre mid1 B1) (fun q=>?_) ?_
 .rcases f6 with⟨c,rfl,rfl,⟨c0,c1,c2,c3,rfl⟩,rfl⟩|⟨c,rfl,rfl,rfl,rfl⟩
  .have e0:pre++(mid1++[c0,c1,c2,c3]++(done++post))=(pre++mid1)++c0::c1::c2::c3::(done++post):=af;rw[e0];simp only[Zo,List.length_cons,List.length_nil]at g2;have hA:(pre++mid1).length=off+nd-4:=by simp;omega
   have e9:∀x0 x1 x2 x3:D,(pre++mid1)++x0::x1::x2::x3::(done++post)=pre++(mid1++(x0::x1::x2::x3::(done++post))):=by intros;simp
   generalize pre++mid1=A at *;simp(disch:=try exact ac)[c,Z4,Z1];rw[aeJ _ _ _ _ _ _ _ _ _ aa aa aa,e9]
   rw[uQ (x:=n'%100) (i:=(n':Int)%100*2+1) aa,uR (x:=n'%100) (i:=(n':Int)%100*2) aa,uQ (x:=n'/100%100) (i:=(n':Int)%10000/100*2+1) aa,uR (x:=n'/100%100) (i:=(n':Int)%10000/100*2) aa];simp[fbH,I,show((nd-4:Nat):Int)=(nd:Int)-4 by omega]
  .simp(disch:=try exact ac)[c,fbH]
 have hp4:10^d1<=10^3:=Z6 ae aa;simp only[Nat.reducePow]at hp4;simp;obtain⟨n2,d2,mid2,B2,e1,e2,e3,e4,e5,e6⟩:=aa6 n1 d1 mid1 B1 f1 f2 f3;refine dy (l:=[.d (.int .u32 n2),I d2]) (h:=fbH pre mid2 B2) (fun q=>?_) ?_
 .rcases e6 with⟨c,rfl,rfl,⟨c0,c1,rfl⟩,rfl⟩|⟨c,rfl,rfl,rfl,rfl⟩
  .have e0:pre++(mid2++[c0,c1]++B1)=(pre++mid2)++c0::c1::B1:=af;rw[fbH,e0];simp only[Zo,List.length_cons,List.length_nil]at f2;have hA:(pre++mid2).length=off+d1-2:=by simp;omega
   have hB:tot=off+d1+B1.length:=by simp at f4;omega
   have e9:∀x0 x1:D,(pre++mid2)++x0::x1::B1=pre++(mid2++(x0::x1::B1)):=by intros;simp
   generalize pre++mid2=A at *;simp(disch:=try exact ac)[c,Z4,Z1];rw[set2 _ _ _ _ _ aa,e9];rw[uQ (x:=n1%100) (i:=(n1:Int)%100*2+1) aa,uR (x:=n1%100) (i:=(n1:Int)%100*2) aa];simp[fbH,I,show((d1-2:Nat):Int)=(d1:Int)-2 by omega]
  .simp(disch:=try exact ac)[c,fbH]
 simp
 have hend:fbH pre ((co n2 d2).map u8) B2=[(1,.data 1 (pre++((co n d).map u8++post)) true false),nnQ]:=by
  simp only[fbH];rw[e5,f5,<-List.append_assoc ((co n' nd).map u8),g5];simp
 refine dy (l:=[]) (h:=fbH pre ((co n2 d2).map u8) B2) (fun q=>?_) ?_
 .match d2,e1,mid2,e2 with
  |0,_,[],_=>simp[fbH,co]
  | 1,_,[c0],_=>
   have hn2:n2<10:=by simpa using e3
   have hB:tot=off+1+B2.length:=by simp at f4;omega
   simp(disch:=try exact ac)[fbH,co];rw[Zj hn2,Ny hn2]
 rw[hend];simp[pK];exact⟨by trivial,.inl (by trivial)⟩
@[simp]theorem ae4(s n:Nat)(cs:LdQ)(h:Hp)(k:kkQ)(u:PU k):rh (alD s n cs h) k u=rn (bnh h[s]?) (fun x=>k (.ptr s (x.1+1) 0 cs.length) (h.set s (x.1+1,.data n cs true false))) .mk:=by unfold rh rn alD;exact CY ..
def ndg(n:Nat):Nat:=if n<10 then 1 else ndg (n/10)+1
theorem k8(n:Nat):1<=ndg n:=by unfold ndg;split<;>omega
theorem ci:∀n:Nat,n<10^ndg n:=by
 intro n
 induction n using Nat.strongRecOn with
 | _ n ih=>
  unfold ndg;split
  .simpa using ‹n<10›
  .have:=ih (n/10) aa;rw[Nat.pow_succ];omega
theorem AV:∀n:Nat,0<n->10^(ndg n-1)<=n:=by
 intro n
 induction n using Nat.strongRecOn with
 | _ n ih=>
  intro h0;unfold ndg;split
  .simp;omega
  .have h1:=ih (n/10) aa aa;have h2:=k8 (n/10);rw[show ndg (n/10)+1-1=(ndg (n/10)-1)+1 by omega,Nat.pow_succ];omega
theorem cg{n:Nat}(h:n<10^d)(hd:1<=d):ndg n<=d:=by
 rcases Zl n with e|e
 .subst e;unfold ndg;rw[if_pos aa];exact hd
 .have h1:=AV n e;have:ndg n-1<d:=(X8 (a:=10) ae).1 aa;omega
def ag(n:Nat):LuQ:=co n (ndg n)
def itoa(z:Int):LuQ:=if z<0 then 45::ag z.natAbs else ag z.natAbs
def TT:LuQ:=[48,49,50,51,52,53,54,55,56,57,97,98,99,100,101,102,103,104,105,106,107,108,109,110,111,112,113,114,115,116,117,118,119,120,121,122]
theorem adr:([48,49,50,51,52,53,54,55,56,57,97,98,99,100,101,102,103,104,105,106,107,108,109,110,111,112,113,114,115,116,117,118,119,120,121,122]:LuQ)=TT:=rfl
theorem Q6:∀x:Fin 10,(TT.drop x.val).take 1=ag x.val:=b9
theorem Q7:∀x:Fin 100,10<=x.val->(rt.drop (2*x.val)).take 2=ag x.val:=by intro x hx;have h1:=(show ∀x:Fin 100,(rt.drop (2*x.val)).take 2=co x.val 2 by decide+kernel) x;rw[h1,ag];congr 1;unfold ndg;rw[if_neg aa];unfold ndg;rw[if_pos aa]
theorem Mn{s:LuQ}{l:IntKind}{j:Int}(a b:Nat)(hi:i=a)(hj:j=b)(h1:a<=b)(h2:b<=s.length):slS (.d (.str s)) (some (.d (.int k i))) (some (.d (.int l j)))=some (.d (.str ((s.drop a).take (b-a)))):=by subst hi hj;simp only[slS,boV];rw[if_pos aa];simp only[];rw[if_pos aa];simp
theorem JK{n:Nat}(h:n<100):CP Y F.iY [I n] (S (ag n)):=by
 refine zK ?_;unfold iY;simp only[HO,adr];by_cases c:n<10
 .simp(disch:=try exact ac)[c];rw[Mn n (n+1) aa aa aa (by rw[show TT.length=36 from rfl];omega)];have:=Q6 ⟨n,c⟩;simp only[]at this;simp[this];exact fw rfl
 .simp(disch:=try exact ac)[c];rw[Mn (2*n) (2*n+2) aa aa aa (by rw[show rt.length=200 from rfl];omega)];have:=Q7 ⟨n,h⟩ (by simpa using c);simp only[]at this;simp[this];exact fw rfl
theorem BH:∀l:LuQ,bytesD (l.map u8)=some l
 |[]=>rfl
 | b::l=>by
  have hb:=b.toNat_lt;simp only[Y7,u8,bytesD];rw[if_pos aa];have:=BH l;rw[this];simp
abbrev cH(cells:LdQ):Hp:=[(1,.data 1 cells true false),nnQ]
theorem Q9(hc:cells.length=24){l:IntKind}{j:Int}(a b:Nat)(hi:i=a)(hj:j=b)(h1:a<=b)(h2:b<=24):
  slP 24 1 (cH cells) (.ptr 0 1 0 24) (some (.d (.int k i))) (some (.d (.int l j)))=some (.ref 0 1 a (b-a) (24-a) 24):=by simp only[slP,cH,aH];simp[xf hj h2,xf hi h1,hc]
theorem HR(hc:cells.length=24){l:IntKind}{j:Int}(b:Nat)(hj:j=b)(h2:b<=24):
  slP 24 1 (cH cells) (.ptr 0 1 0 24) none (some (.d (.int l j)))=some (.ref 0 1 0 b 24 24):=by simp only[slP,cH,aH];simp[xf hj h2,Ft,hc]
theorem Nb(hc:cells.length=24){i len:Nat}{bs:LuQ}(hl:i+len<=24)(he:(cells.drop i).take len=bs.map u8)(hb:bs.length=len):cvT (cH cells) (.ref 0 1 i len cap 24)=some (S bs):=by simp only[cvT,cellsOf,cH,aH];simp[hc,hl,he,hb,BH]
theorem Qj(h1 : -9223372036854775808<z)(h2:z<9223372036854775808):CP Y F.dL [I z,I 10] (S (itoa z)):=by
 refine vQ ?_;have hd1:=k8 z.natAbs;have hd2:ndg z.natAbs<=19:=cg aa aa;have hn:=ci z.natAbs;by_cases hs:0<=z∧z<100
 .obtain⟨hs1,hs2⟩:=hs;obtain⟨n,rfl⟩:∃n:Nat,z=n:=⟨z.toNat,aa⟩;simp[dL,hs1,hs2];refine cd (JK (n:=n) aa) ?_;rw[show itoa (n:Int)=ag n by unfold itoa;rw[if_neg aa];rfl];exact fw rfl
 .have hcs:(0<=z∧¬z<100)∨¬0<=z:=aa;have hw:z<0->IntKind.wrap .u64 z=z+18446744073709551616:=fun h=>by rw[xh];omega
  have hw2:z<0->IntKind.wrap .u64 (-(z+18446744073709551616)) = -z:=fun h=>by rw[xh];omega
  have hn64:z.natAbs<18446744073709551616:=aa;have hn0:0<z.natAbs:=aa;have hab:(z.natAbs:Int)=if z<0 then -z else z:=by split<;>omega
  have hit:itoa z=if z<0 then 45::co z.natAbs (ndg z.natAbs)else co z.natAbs (ndg z.natAbs):=rfl
  have hlo:=AV z.natAbs hn0;generalize ndg z.natAbs=d at *;generalize z.natAbs=n at *
  obtain ⟨mid,post,hm,hp,hcell⟩:∃mid post:LdQ,mid.length=d∧post.length=23-d∧List.replicate 24 (D.int .u8 0)=[D.int .u8 0]++(mid++post):=by
   refine⟨List.replicate d (.int .u8 0),List.replicate (23-d) (.int .u8 0),af,af,?_⟩;rw[Xx,show d+(23-d)=23 by omega];rfl
  have hmain:cal (CX Y).p (cH ([D.int .u8 0]++(mid++post))) (.fn F.dK [] []) [.d (.int .u64 n)] fun v12 h=>
    bnd (biI .add (.d (.int .i64 1)) v12) fun v13=>
    bnd (slP 24 1 h (.ptr 0 1 0 24) (some (.d (.int .i64 1))) (some v13)) fun v14=>
    cai (CX Y).i h (.fn F.bQ [] []) [v14,.d (.int .u64 n)] 1 fun v15 h=>
    bnd (biI .lss (I z) (.d (.int .i64 0))) fun v16=>
    cnd v16 (
     bnd (ixP 24 1 (.ptr 0 1 0 24) (.d (.int .i64 0))) fun v17=>
     stD h 1 v17 (.d (.int .u8 45)) fun _ h=>
     bnd (biI .add (.d (.int .i64 1)) v12) fun v19=>
     bnd (slP 24 1 h (.ptr 0 1 0 24) none (some v19)) fun v20=>
     bnd (cvT h v20) fun v21=>
     out (S (itoa z)) v21 h) (
     bnd (biI .add (.d (.int .i64 1)) v12) fun v22=>
     bnd (slP 24 1 h (.ptr 0 1 0 24) (some (.d (.int .i64 1))) (some v22)) fun v23=>
     bnd (cvT h v23) fun v24=>
     out (S (itoa z)) v24 h):=by
   refine cd (u:=.mk) (zu hlo hn hd1 hn64) ?_;simp(disch:=try exact ac);rw[Q9 ak 1 (d+1) aa aa aa aa];simp;refine iG (h':=cH ([D.int .u8 0]++((co n d).map u8++post))) (ZB (pre:=[D.int .u8 0]) rfl hm aa aa hn hn64) ?_ af;by_cases g:z<0
   .rw[if_pos g]at hit;simp[g,aS,hp];rw[Pw _ _ _ _ _ _ _ _ _ (by simp[aS];omega) af];simp(disch:=try exact ac)[cK];rw[HR (by simp[aS];omega) (d+1) aa aa];simp;rw[Nb (bs:=45::co n d) (by simp[aS];omega) aa (by simp[u8,aS,List.take_append,Z0]) (by simp[aS])]
    rw[hit];simp;exact fw rfl
   .rw[if_neg g]at hit;simp(disch:=try exact ac)[g];rw[Q9 (by simp[aS];omega) 1 (d+1) aa aa aa aa];simp;rw[Nb (bs:=co n d) (by simp[aS];omega) aa (by simp[aS,List.take_append,Z0]) (by simp[aS])];rw[hit];simp;exact fw rfl
  rcases hcs with⟨g1,g2⟩|g1
  .have g3:¬z<0:=aa;rw[if_neg g3]at hab;simp[dL,g1,g2];refine dy (l:=[.d (.int .u64 n)]) (h:=cH ([D.int .u8 0]++(mid++post))) (fun q=>?_) hmain;rw[<-hcell];simp(disch:=try exact ac)[g3,hab]
  .have g3:z<0:=aa;rw[if_pos g3]at hab;simp[dL,g1];refine dy (l:=[.d (.int .u64 n)]) (h:=cH ([D.int .u8 0]++(mid++post))) (fun q=>?_) hmain;rw[<-hcell];simp[g3,hab,hw g3,hw2 g3]
theorem aaV(h1 : -9223372036854775808<z)(h2:z<9223372036854775808):CP Y F.lE [I z] (S (itoa z)):=by refine Ba ?_;simp[lE];refine cd (Qj h1 h2) ?_;exact fw rfl
theorem xD(h1 : -9223372036854775808<z)(h2:z<9223372036854775808):CP Y F.strconv_Itoa [I z] (S (itoa z)):=by refine DC ?_;simp[strconv_Itoa];refine cd (aaV h1 h2) ?_;exact fw rfl
def oL(b:UInt8):Bool:=decide (48<=b.toNat)&&decide (b.toNat<=57)
theorem jM{b:UInt8}:oL b=true↔48<=b.toNat∧b.toNat<=57:=by simp[oL]
def c8(a:Nat)(s:LuQ):Nat:=s.foldl (fun a b=>a*10+(b.toNat-48)) a
@[simp]theorem Bb(a:Nat):c8 a []=a:=by unfold c8;rw[List.foldl_nil]
@[simp]theorem iZ(a:Nat)(b:UInt8)(s:LuQ):c8 a (b::s)=c8 (a*10+(b.toNat-48)) s:=by unfold c8;rw[List.foldl_cons]
theorem IL(x:Nat):(dg x).toNat=(48+x)%256:=by simp[dg]
theorem ads{b:UInt8}(h:oL b=true):dg (b.toNat-48)=b:=by rw[jM]at h;apply UInt8.toNat.inj;rw[IL];omega
theorem Hn:∀(s:LuQ)(a w:Nat),s.all oL=true->co (c8 a s) (w+s.length)=co a w++s
 |[],a,w,_=>by simp
 | b::s,a,w,h=>by
  simp only[List.all_cons,Z8]at h;have:=Hn s (a*10+(b.toNat-48)) (w+1) h.2;have hb:=jM.1 h.1;rw[iZ,List.length_cons,show w+(s.length+1)=w+1+s.length by omega,this];simp only[co];rw[show(a*10+(b.toNat-48))/10=a by omega,show(a*10+(b.toNat-48))%10=b.toNat-48 by omega,ads h.1];simp
theorem zL:∀(s:LuQ)(a:Nat),a*10^s.length<=c8 a s
 |[],a=>by simp
 | b::s,a=>by
  have:=zL s (a*10+(b.toNat-48));rw[iZ,List.length_cons,Nat.pow_succ];refine Zs ?_ this;rw[Zw (10^s.length),<-Nat.mul_assoc];exact Zx _ aa
theorem ul:∀(s:LuQ)(a:Nat),s.all oL=true->c8 a s<(a+1)*10^s.length
 |[],a,_=>by simp
 | b::s,a,h=>by
  simp only[List.all_cons,Z8]at h;have:=ul s (a*10+(b.toNat-48)) h.2;have hb:=jM.1 h.1;rw[iZ,List.length_cons,Nat.pow_succ];refine Z3 this ?_;rw[Zw (10^s.length),<-Nat.mul_assoc];exact Zx _ aa
theorem Sz{n:Nat}(h1:10^d<=n)(h2:n<10^(d+1)):ndg n=d+1:=by have:=cg h2 aa;have h3:=ci n;have:d<ndg n:=(X8 (a:=10) ae).1 aa;omega
def qX(s:LuQ):Bool:=!s.isEmpty&&s.all oL && !(decide (1<s.length)&&decide (s.headD 0=48))
theorem Et{s:LuQ}(h:qX s=true):ag (c8 0 s)=s:=by
 simp only[qX,Z8,Yu,Xv,decide_eq_false_iff_not]at h;obtain⟨⟨h0,h1⟩,h2⟩:=h;cases s with
 |nil=>simp at h0
 | cons b s=>
  have hd:=Hn (b::s) 0 0 h1;simp only[List.all_cons,Z8]at h1;have hb:=jM.1 h1.1;simp only[Zn,co,List.nil_append]at hd
  have hn:ndg (c8 0 (b::s))=(b::s).length:=by
   have lo:=zL s (b.toNat-48);have hi:=ul s (b.toNat-48) h1.2;simp only[iZ,X5,Zn,List.length_cons]at *;by_cases hs:s=[]
   .subst hs;simp only[Bb,List.length_nil,Zn];unfold ndg;rw[if_pos aa]
   .have hl:0<s.length:=Xq.2 hs
    have hb0:b.toNat≠48:=by
     rcases h2 with h2|h2
     .omega
     .intro e;apply h2;simp only[List.headD_cons];apply UInt8.toNat.inj;rw[e];rfl
    refine Sz ?_ ?_
    .refine Zs ?_ lo;have:=Zx (10^s.length) (show 1<=b.toNat-48 by omega);omega
    .refine Z3 hi ?_;rw[Nat.pow_succ,Zw];exact Zy _ aa
  unfold ag;rw[hn];exact hd
theorem VY{x:Nat}(h:x<10):oL (dg x)=true:=by rw[jM,IL];omega
theorem abc{x:Nat}(h:x<10):(dg x).toNat=48+x:=by rw[IL];omega
theorem xc:∀(w n:Nat),(co n w).all oL=true
 |0,_=>rfl
 | w+1,n=>by
  simp only[co,Xz,xc w,List.all_cons,Wl,We,Y9];exact VY aa
theorem rF:∀(s t:LuQ)(a:Nat),c8 a (s++t)=c8 (c8 a s) t
 |[],t,a=>rfl
 |b::s,t,a=>by rw[List.cons_append,iZ,iZ,rF s t]
theorem xF:∀(w n:Nat),n<10^w->c8 0 (co n w)=n
 |0,n,h=>by simp at h;subst h;rfl
 | w+1,n,h=>by
  have:=xF w (n/10) (by rw[Nat.pow_succ]at h;omega);simp only[co,rF,this,iZ,Bb];rw[abc aa];omega
theorem vr(n:Nat):qX (ag n)=true:=by
 have hl:(ag n).length=ndg n:=aS ..;have hp:=k8 n;have ha:(ag n).all oL=true:=xc ..;have hh:c8 0 (ag n)=n:=xF _ _ (ci n);cases he:ag n with
 |nil=>rw[he]at hl;simp at hl;omega
 | cons b s=>
  rw[he]at hl ha hh;simp only[qX,List.isEmpty_cons,Bool.not_false,Y9,ha,List.headD_cons,Yu,Xv,decide_eq_false_iff_not];by_cases h1:1<(b::s).length
  .right;refine decide_eq_false fun e=>?_
   subst e;simp only[List.all_cons,Z8]at ha;have hi:=ul s 0 ha.2;simp only[iZ,List.length_cons]at *;have e48:(48:UInt8).toNat=48:=rfl;rw[e48]at hh;simp only[Nat.sub_self,X5,Zn,Ye]at *;rw[hh]at hi
   have lo:=AV n (by
    rcases Zl n with e|e
    .have e1:ndg 0=1:=by unfold ndg;rfl
     rw[e,e1]at hl;omega
    .exact e)
   rw[<-hl]at lo;simp at lo;omega
  .left;simpa using h1
theorem fo(n:Nat):c8 0 (ag n)=n:=xF _ _ (ci n)
def rdS(s:LuQ):Option Int:=if s.headD 0=45 then(if qX s.tail=true∧s.tail≠[48]then some (-(c8 0 s.tail:Int))else none)else if qX s=true then some (c8 0 s:Int)else none
theorem w6(n:Nat):ag n≠[]:=by intro e;have:(ag n).length=ndg n:=aS ..;have:=k8 n;rw[e]at *;simp at *;omega
theorem qO(n:Nat):(ag n).headD 0≠45:=by
 have ha:(ag n).all oL=true:=xc ..;cases he:ag n with
 |nil=>exact absurd he (w6 n)
 | cons b s=>
  rw[he]at ha;simp only[List.all_cons,Z8,jM]at ha;simp only[List.headD_cons];intro e;subst e;have:(45:UInt8).toNat=45:=rfl;omega
theorem D4(z:Int):rdS (itoa z)=some z:=by
 unfold rdS itoa;by_cases hz:z<0
 .rw[if_pos hz,List.headD_cons,if_pos rfl,List.tail_cons,vr,fo,if_pos]
  .congr 1;omega
  .refine⟨rfl,fun e=>?_⟩;have:=fo z.natAbs;rw[e]at this;have e2:c8 0 [48]=0:=rfl;omega
 .rw[if_neg hz,if_neg (qO _),if_pos (vr _),fo];congr 1;omega
theorem J2{s:LuQ}(h:rdS s=some z):s=itoa z:=by
 unfold rdS at h;split at h
 .rename_i hd;split at h
  .rename_i hc;simp only[Z9]at h;subst h;cases s with
   |nil=>simp at hd
   | cons b s=>
    simp only[List.headD_cons]at hd;subst hd;simp only[List.tail_cons]at *;have he:=Et hc.1
    have h0:c8 0 s≠0:=by
     intro e;rw[e]at he;apply hc.2;rw[<-he];unfold ag ndg;rfl
    unfold itoa;rw[if_pos aa,Wq,Int.natAbs_natCast,he]
  .cases h
 .split at h
  .rename_i hc;simp only[Z9]at h;subst h;unfold itoa;rw[if_neg aa,Int.natAbs_natCast,Et hc]
  .cases h
theorem sR:∀(v w n:Nat),co n (w+v)=co (n/10^v) w++co n v
 |0,w,n=>by simp[co]
 | v+1,w,n=>by
  rw[show w+(v+1)=(w+v)+1 by omega];simp only[co];rw[sR v w (n/10),Ze,Nat.pow_succ,Zw 10,List.append_assoc]
theorem uB:∀(w n m:Nat),co (n+10^w*m) w=co n w
 |0,_,_=>rfl
 | w+1,n,m=>by
  simp only[co];have e:n+10^(w+1)*m=n+10*(10^w*m):=by rw[Nat.pow_succ,Zw (10^w) 10,Nat.mul_assoc]
  rw[e,Yx _ _ ae,Ya,uB w]
theorem Hm:∀w,co 0 w=List.replicate w 48
 |0=>rfl
 | w+1=>by
  simp only[co,Nat.zero_div,Nat.zero_mod,Hm w];rw[List.replicate_succ'];rfl
theorem Vp{n:Nat}(h:ndg n<=w):List.replicate (w-ndg n) 48++ag n=co n w:=by have:=sR (ndg n) (w-ndg n) n;rw[show w-ndg n+ndg n=w by omega,Zh (ci n),Hm]at this;exact this.symm
theorem G7{t k r:Nat}(ht:0<t)(hr:r<10^k):ag (r+10^k*t)=ag t++co r k:=by
 have h1:=AV t ht;have h2:=ci t;have h3:=k8 t;obtain⟨d,hd⟩:∃d,ndg t=d+1:=⟨ndg t-1,aa⟩
 have hn:ndg (r+10^k*t)=ndg t+k:=by
  rw[hd]at h1 h2 ⊢;simp only[W5]at h1;rw[show d+1+k=(d+k)+1 by omega];refine Sz ?_ ?_
  .rw[Zr,Zw];have:=Zy (10^k) h1;omega
  .rw[show d+k+1=k+(d+1) by omega,Zr];have:=Zy (10^k) h2;rw[Nat.mul_succ]at this;omega
 have e:=sR k (ndg t) (r+10^k*t);rw[<-hn,Yx _ _ (Xu (by have:=Yq (a:=10) (n:=k) ae;omega)),Zh hr,Zn,uB]at e;exact e
theorem BL:∀a:Fin 10,biI .and (.d (.int .u64 a.val)) (.d (.int .u64 4294967295))=some (.d (.int .u64 a.val)):=by
 intro a
 match a with
 |0|1|2|3|4|5|6|7|8|9=>rfl
@[simp]theorem afP{n:Nat}(h:n<10):biI .and (.d (.int .u64 (n:Int))) (.d (.int .u64 4294967295))=some (.d (.int .u64 n)):=BL ⟨n,h⟩
@[simp]theorem afy:biI .and (.d (.int .u64 1)) (.d (.int .u64 4294967295))=some (.d (.int .u64 1)):=BL 1
@[simp]theorem afz:biI .and (.d (.int .u64 0)) (.d (.int .u64 4294967295))=some (.d (.int .u64 0)):=BL 0
theorem Kz{n:Nat}(h:n<10):CP Y F.fF [.d (.int .u64 1),.d (.int .u64 n)] (.tup [.d (.int .u64 0),.d (.int .u64 n)]):=by refine tt ?_;have e:(n:Int)/4294967296=0:=aa;simp(disch:=try exact ac)[fF,e];exact⟨[],by simp[aP,av]⟩
theorem P2{n:Nat}(h:n<10):CP Y F.mL [.d (.int .u64 1),.d (.int .u64 n)] (.tup [.d (.int .u64 0),.d (.int .u64 n)]):=by refine Cl ?_;simp(disch:=try exact ac)[mL];refine cd (Kz h) ?_;simp(disch:=try exact ac);exact⟨[],by simp[aP,av]⟩
theorem ix0:ixS (.d (.str [48])) (.d (.int .i64 0))=some (.d (.int .u8 48)):=rfl
theorem ac3:ij (.d (.str [48]))=some (I 1):=rfl
theorem OD{s p:LuQ}(b:Bool)(h:p.isPrefixOf s=b):CP Y F.strings_HasPrefix [S s,S p] (B b):=by subst h;exact ID s p
theorem PK{n:Nat}(h:n<10):CP Y F.strings_Repeat [S [48],I n] (S (List.replicate n 48)):=by
 refine AC ?_;by_cases h0:n=0
 .subst h0;simp(disch:=try exact ac)[strings_Repeat];exact fw rfl
 by_cases h1:n=1
 .subst h1;simp(disch:=try exact ac)[strings_Repeat];exact fw rfl
 have h0':¬(n:Int)=0:=aa;have h1':¬(n:Int)=1:=aa;simp(disch:=try exact ac)[strings_Repeat,h0',h1'];refine dy (l:=[]) (h:=[nnQ]) (fun q=>?_) ?_
 .simp(disch:=try exact ac)
 simp(disch:=try exact ac)[ac3];refine cd (P2 h) ?_;simp(disch:=try exact ac);refine dy (l:=[]) (h:=[nnQ]) (fun q=>?_) ?_
 .simp(disch:=try exact ac)
 simp(disch:=try exact ac)[ac3,ix0];have hwr:IntKind.wrap .i64 (n:Int)=n:=pu aa aa;refine aE ?_;simp(disch:=try exact ac);refine dy (l:=[.d (.bool true)]) (h:=[nnQ]) (fun q=>?_) ?_
 .simp(disch:=try exact ac)[jo]
 simp(disch:=try exact ac);refine aE ?_;simp(disch:=try exact ac);refine cd (OD false rfl) ?_;simp(disch:=try exact ac);refine cd (OD false rfl) ?_;simp(disch:=try exact ac);refine cd (OD true rfl) ?_;simp(disch:=try exact ac)
 have ht:∀x:Fin 10,List.take x.val (List.replicate 64 (48:UInt8))=List.replicate x.val 48:=b9;exact fw (ht ⟨n,h⟩)
def Bt:Nat->Nat->LnQ
 |_,0=>[]
 |n,w+1=>Bt (n/10) w++[n%10]
theorem EW:∀(w n:Nat),(Bt n w).length=w
 |0,_=>rfl
 |w+1,n=>by simp[Bt,EW w]
theorem C8:∀(w n:Nat),∀x∈Bt n w,x<10
 |0,_=>by simp[Bt]
 | w+1,n=>by
  intro x hx;simp only[Bt,Wx,List.mem_singleton]at hx;rcases hx with hx|hx
  .exact C8 w _ x hx
  .omega
theorem IN:∀(w n:Nat),co n w=(Bt n w).map dg
 |0,_=>rfl
 |w+1,n=>by simp[co,Bt,IN w]
def V0(a:Nat)(l:LnQ):Nat:=l.foldl (fun a d=>a*10+d) a
theorem Ex:∀(w n:Nat),n<10^w->V0 0 (Bt n w)=n
 |0,n,h=>by simp at h;subst h;rfl
 | w+1,n,h=>by
  have:=Ex w (n/10) (by rw[Nat.pow_succ]at h;omega);unfold V0 at this;simp only[V0,Bt,List.foldl_append,this,List.foldl_cons,List.foldl_nil];omega
def f8(x:Nat):D:=.int .u8 (48+x)
theorem T0(n w:Nat):(co n w).map u8=(Bt n w).map f8:=by rw[IN,List.map_map];apply List.map_congr_left;intro x hx;exact Ny (C8 w n x hx)
theorem Jb(k:KL)(h0:Hp)(hh:h0.length=0):∀(r a:LnQ)(s:Nat),(a++r).length<=18->(∀x∈r,x<10)->s<10^a.length ->
  (k (.exit 0) [I (V0 s r)] []) ->
  lp (m8 (CX Y) (lst f8 (a++r)) (I (a++r).length)) [] h0 [I s,I a.length] [] k
 | []=>by
  intro a s hN hx hs hk;refine ai ?_;simp[m8];exact hk
 | x::r=>by
  intro a s hN hx hs hk;simp at hN hx;have hs18:s<10^17:=Z3 hs (Z6 ae aa);simp only[Nat.reducePow]at hs18;have hx1:=hx.1;refine ai ?_;simp(disch:=try exact ac)[m8,f8];have:=Jb k h0 hh r (a++[x]) (s*10+x) ak hx.2 (by simp[Nat.pow_succ];omega) hk;simp at this
  rw[show(48+(x:Int)-48)=x by omega];exact this
theorem YE{n:Nat}(h1:1<=w)(h2:w<=18)(hn:n<10^w):CP Y F.iD [S (co n w)] (.tup [I n,.d (.pl .nilIface)]):=by
 refine uk ?_;have hl:=EW w n;have hlt:=C8 w n;have hh:=Ex w n hn;have he:=T0 n w;have hD:=IN w n;generalize co n w=L at *;generalize Bt n w=l at *;cases l with
 |nil=>simp at hl;omega
 | cons x l=>
  have hx:=hlt x af
  have hi:ixS (S L) (.d (.int .i64 0))=some (.d (.int .u8 (48+x))):=by
   rw[hD];simp[ixS];have e:=Ny hx;unfold u8 at e;injection e
  have hlen:L.length=w:=by rw[hD];simpa using hl
  have hlw:ij (S L)=some (I w):=by rw[Iy,hlen]
  simp(disch:=try exact ac)[iD,hlw,hi]
  have hcv:∀(k:kkQ),cvB (S L) [] k=k (lst f8 (x::l)) []:=by
   intro k
   have:V.d (.sl L.length (L.map fun b=>.int .u8 b.toNat))=lst f8 (x::l):=by
    unfold lst;rw[hlen,hl,<-he];rfl
   simp only[cvB,this]
  refine dy (l:=[S L]) (h:=[]) (fun q=>?_) ?_
  .simp[show ¬(48+(x:Int)=43) by omega]
  show cvB (S L) [] _
  rw[hcv];simp;refine lo (Jb _ _ rfl (x::l) [] 0 (by simp at hl;simp;omega) hlt af ?_);simp[hi,hh];refine dy (l:=[I n]) (h:=[]) (fun q=>?_) ?_
  .simp[hh,show ¬(48+(x:Int)=45) by omega]
  exact⟨[],by simp[aP,av,norm]⟩
theorem MG:biF .neq (.d (.pl .nilIface)) (.d (.pl .nilIface))=some (.d (.bool false)):=rfl
theorem De{n:Nat}(h1:1<=w)(h2:w<=18)(hn:n<10^w):CP Y F.strconv_Atoi [S (co n w)] (.tup [I n,.d (.pl .nilIface)]):=by refine wz ?_;simp[strconv_Atoi];refine cd (YE h1 h2 hn) ?_;simp[MG];exact⟨[],by simp[aP,av,norm]⟩
theorem aak(a c:V)(b1:Nat×Bk)(l:LnQ):st [(1,.vars [a,c]),b1] 1 (.ptr 0 1 1 2) (lst i9 l)=some [(1,.vars [a,lst i9 l]),b1]:=by simp[st,sto,lst,aH,cK,okV]
theorem Mc(k:KL)(h0:Hp)(hh:h0.length=2)(s:D)(b1:Nat×Bk):∀(n:Nat)(l:LnQ),l.length=n->n<1000000000 ->
  (k (.exit 0) [] [(1,.vars [.d s,lst i9 (gS l)]),b1]) ->
  lp (kt (CX Y) (.ptr 0 1 0 2)) [] h0 [] [(1,.vars [.d s,lst i9 l]),b1] k:=by
 intro n
 induction n with
 | zero=>
  intro l hl hn hk;have:l=[]:=Zt hl;subst this;refine ai ?_;simp(disch:=try exact ac)[kt];exact hk
 | succ n ih=>
  intro l hl hn hk;obtain⟨l,x,rfl⟩:∃l' x,l=l'++[x]:=⟨l.dropLast,l.getLast (by intro e;simp[e]at hl),(X7 _).symm⟩;have hl2:l.length=n:=by simpa using hl
  refine ai ?_;simp(disch:=try exact ac)[kt];by_cases hx:x=0
  .subst hx;rw[mz]at hk;simp(disch:=try exact ac)[i9,hh];rw[aak];simp(disch:=try exact ac)[hh];exact ih l hl2 aa hk
  .rw[rV hx]at hk;simp(disch:=try exact ac)[i9,show ¬(x:Int)=0 by omega];exact hk
def wh(s:Bool)(n:Nat):V:=.agg [.d (.bool s),bu n]
theorem qU(s:Bool)(n:Nat)(h:Hp):out (wh s n) (.agg [.d (.bool s),lst i9 (dig Z n)]) h:=by refine⟨h,?_⟩;unfold wh bu;simp[aP,av]
theorem qH{s:Bool}{l:LnQ}(hl:aw Z l)(hn:l.length<1000000000):CP Y F.aK [.agg [.d (.bool s),lst i9 l]] (wh (s&&decide (0<val Z l)) (val Z l)):=by
 refine xN ?_;simp(disch:=try exact ac)[aK];refine lo (Mc _ _ rfl (.bool s) _ l.length l rfl hn ?_);have ht:lst i9 (gS l)=bu (val Z l):=by rw[bu,oS ah hl]
 rw[ht]
 have hp:(0<(dig Z (val Z l)).length)↔(0<val Z l):=by
  have:=sQ ah (n:=val Z l);rw[Xq,ne_eq,this];omega
 have ho:∀f:LnQ,okV (lst i9 f)=true:=fun _=>rfl
 generalize hD:dig Z (val Z l)=d9 at *;cases s
 .simp(disch:=try exact ac)[bu,hD,ho];subst hD;exact qU _ _ _
 .simp(disch:=try exact ac)[bu,hD,ho];subst hD;simp only[hp];exact qU _ _ _
theorem Ax(s:Bool){n:Nat}(hn:bz n<1000000000):CP Y F.aK [.agg [.d (.bool s),bu n]] (wh (s&&decide (0<n)) n):=by
 have:=qH (s:=s) (aJ ah n) hn
 rwa [bG ah]at this
theorem VC{s:Bool}{n:Nat}(hn:bz n<1000000000):CP Y F.dT [wh s n] (wh (!s&&decide (0<n)) n):=by
 refine xR ?_;simp(disch:=try exact ac)[dT,wh]
 have hf:w8 (some (1,1)) (fun i=>[(0,1),(1,1)][i]?) [V.d (D.bool !s),V.d nPQ] (bu n) []=some [V.d (D.bool !s),bu n]:=by
  simp[w8,bu,lst,tU]
 rw[hf];simp(disch:=try exact ac);refine cd (Ax (!s) hn) ?_ (by simp[av,aP,bu]);simp(disch:=try exact ac)[wh,bu,show ∀f:LnQ,okV (lst i9 f)=true from fun _=>rfl];exact qU _ _ _
theorem Tz(s:Bool)(l:LnQ):w8 (some (1,1)) (fun i=>[(0,1),(1,1)][i]?) [V.d (D.bool s),V.d nPQ] (lst i9 l) []=some [V.d (D.bool s),lst i9 l]:=by simp[w8,lst,tU]
theorem TB(s:Bool)(n:Nat):w8 (some (1,1)) (fun i=>[(0,1),(1,1)][i]?) [V.d (D.bool s),V.d nPQ] (bu n) []=some [V.d (D.bool s),bu n]:=Tz s _
theorem zq(n:Nat):okV (bu n)=true:=rfl
theorem Aw(s:Bool){n:Nat}(hw:w<1000000000)(hn:n<Z^w):CP Y F.aK [.agg [.d (.bool s),lst i9 (bv w n)]] (wh (s&&decide (0<n)) n):=by
 have:=qH (s:=s) (sF w n) (by rw[c9];exact hw)
 rwa [um w n hn]at this
theorem QI{s:Bool}{n m:Nat}(hn:bz n<1000000000)(hm:bz m<1000000000)(hs:bz (n+m)<1000000000):CP Y F.bZ [wh s n,wh s m] (wh (s&&decide (0<n+m)) (n+m)):=by refine rj ?_;simp(disch:=try exact ac)[bZ,wh];refine cd (Sf hn hm) ?_ (by simp[av,aP,bu]);simp(disch:=try exact ac);rw[TB];simp(disch:=try exact ac);refine cd (Ax s hs) ?_ (by simp[av,aP,bu]);simp(disch:=try exact ac)[wh,zq];exact qU _ _ _
theorem QJ{s:Bool}(hst:(s == t)=false){n m:Nat}(hn:bz n<1000000000)(hm:bz m<1000000000):CP Y F.bZ [wh s n,wh t m] (if m<=n then wh (s&&decide (0<n-m)) (n-m)else wh (t&&decide (0<m-n)) (m-n)):=by
 refine rj ?_;have hlt:∀a b:Nat,a-b<Z^bz a:=fun a b=>Zu (Nat.sub_le a b) ((gZ ah (n:=a)).1 (Z7 _))
 simp(disch:=try exact ac)[bZ,wh,hst];have h40:(2:Nat)^40=1099511627776:=ae;refine cd (FC aa aa) ?_ (by simp[av,aP,bu]);by_cases h:m<=n
 .have hc:(0:Int)<=cmp n m:=by unfold cmp;rw[if_neg aa];split<;>omega
  simp(disch:=try exact ac)[hc];refine cd (AW h hn) ?_ (by simp[av,aP,bu]);simp(disch:=try exact ac);rw[Tz];simp(disch:=try exact ac);refine cd (Aw s hn (hlt n m)) ?_ (by simp[av,aP]);simp(disch:=try exact ac)[wh,zq,h];exact qU _ _ _
 .have hc:¬(0:Int)<=cmp n m:=by unfold cmp;rw[if_pos aa];omega
  simp(disch:=try exact ac)[hc];refine cd (AW aa hm) ?_ (by simp[av,aP,bu]);simp(disch:=try exact ac);rw[Tz];simp(disch:=try exact ac);refine cd (Aw t hm (hlt m n)) ?_ (by simp[av,aP]);simp(disch:=try exact ac)[wh,zq,h];exact qU _ _ _
theorem DO{s:Bool}{n:Nat}(hn:bz n<1000000000):CP Y F.bJ [wh s n] (I (if n=0 then 0 else if s then -1 else 1)):=by
 refine wF ?_;have hz:=sQ ah (n:=n);by_cases h:n=0
 .subst h;simp(disch:=try exact ac)[bJ,wh,bu,pS]
 .have hl:¬(dig Z n).length=0:=fun e=>h (hz.1 (Zt e))
  cases s
  .simp(disch:=try exact ac)[bJ,wh,bu,h,hl]
  .simp(disch:=try exact ac)[bJ,wh,bu,h,hl]
def iH(z:Int):V:=wh (decide (z<0)) z.natAbs
theorem Nu{s:Bool}{n m:Nat}(h1:s=t)(h2:n=m):wh s n=wh t m:=by rw[h1,h2]
theorem Dg{x:Int}(hx:bz x.natAbs<1000000000)(hy:bz y.natAbs<1000000000)(hs:bz (x.natAbs+y.natAbs)<1000000000):CP Y F.bZ [iH x,iH y] (iH (x+y)):=by
 by_cases h:decide (x<0)=decide (y<0)
 .have:=QI (s:=decide (x<0)) hx hy hs;unfold iH;rw[<-h];have e:(x+y).natAbs=x.natAbs+y.natAbs:=by simp only[decide_eq_decide]at h;omega
  have e2:decide (x+y<0)=(decide (x<0)&&decide (0<x.natAbs+y.natAbs)):=by
   simp only[decide_eq_decide]at h;rw[<-Bool.decide_and,decide_eq_decide];omega
  rw[e,e2];exact this
 .have hb:(decide (x<0) == decide (y<0))=false:=by simpa using h
  have:=QJ hb hx hy;simp only[decide_eq_decide]at h;by_cases hle:y.natAbs<=x.natAbs
  .rw[if_pos hle]at this;unfold iH;have e:(x+y).natAbs=x.natAbs-y.natAbs:=aa
   have e2:decide (x+y<0)=(decide (x<0)&&decide (0<x.natAbs-y.natAbs)):=by
    rw[<-Bool.decide_and,decide_eq_decide];omega
   rw[e,e2];exact this
  .rw[if_neg hle]at this;unfold iH;have e:(x+y).natAbs=y.natAbs-x.natAbs:=aa
   have e2:decide (x+y<0)=(decide (y<0)&&decide (0<y.natAbs-x.natAbs)):=by
    rw[<-Bool.decide_and,decide_eq_decide];omega
   rw[e,e2];exact this
theorem aaH{x:Int}(hx:bz x.natAbs<1000000000):CP Y F.dT [iH x] (iH (-x)):=by
 have:=VC (s:=decide (x<0)) hx
 have e:iH (-x)=wh (!decide (x<0)&&decide (0<x.natAbs)) x.natAbs:=by
  unfold iH;refine Nu ?_ aa;rw[<-decide_not,<-Bool.decide_and,decide_eq_decide];omega
 rw[e];exact this
theorem UT{x:Int}(hx:bz x.natAbs<1000000000)(hy:bz y.natAbs<1000000000)(hs:bz (x.natAbs+y.natAbs)<1000000000):CP Y F.iJ [iH x,iH y] (iH (x-y)):=by
 refine xP ?_;have h1:=aaH (x:=y) hy;have h2:=Dg (x:=x) (y:=-y) hx (by simpa using hy) (by simpa using hs);rw[show x + -y=x-y by omega]at h2;unfold iH wh at h1 h2 ⊢;have hd:decide (-y<0)=decide (0<y):=by rw[decide_eq_decide];omega
 rw[hd,Wq]at h1 h2;generalize decide (x-y<0)=r at *;generalize(x-y).natAbs=rn at *;simp(disch:=try exact ac)[iJ];refine cd h1 ?_ (by simp[av,aP,bu]);simp(disch:=try exact ac);refine cd h2 ?_ (by simp[av,aP,bu]);simp(disch:=try exact ac)[zq];exact qU _ _ _
theorem GI(h1 : -9223372036854775808<z)(h2:z<9223372036854775808):CP Y F.bW [I z] (S (itoa z)):=by refine yn ?_;simp(disch:=try exact ac)[bW];refine cd (xD h1 h2) ?_;exact fw rfl
theorem DX(z:D):∀n,fS n [z]=List.replicate n z
 |0=>rfl
 |n+1=>by simp[fS,DX z n,List.replicate_succ]
@[simp] theorem ae2 (s by_:Nat)(z:D)(h:Hp)(i:Int)(k:kkQ)(u:PU k)(h0:0<=i)(hb:by_*i<=281474976710656)(h1:i<=9223372036854775807):
  rh (mkS s by_ [z] h (.d (.int .i64 i)) (.d (.int .i64 i))) k u=rn (bnh h[s]?) (fun y=>k (.ref s (y.1+1) 0 i.toNat i.toNat i.toNat) (h.set s (y.1+1,.data 1 (List.replicate i.toNat z) true false))) .mk:=by unfold rh rn;simp only[mkS];rw[if_pos ⟨h0,Int.le_refl _,af,hb,h1⟩,CY];simp only[DX,Yn,List.length_singleton]
@[simp]theorem ad5(s e off len cap tot:Nat):aj (.ref s e off len cap tot)=some (.d (.int .i64 (len:Int))):=id rfl
theorem pd{v r:V}{h:Hp}(e:aP h r=some (v,h)):out v r h:=⟨h,e⟩
theorem dX{T:kkQ->Prop}{k:kkQ}{u:PU k}(h:T k):rh T k u:=h
theorem cdz{h:Hp}{f:FuncId}{v:V}{k:kkQ}{u:PU k}(hs:av h args=some (ds,h'))(hc:C f ds v)(hk:k v (if gh v then h else h')):rh (cal C h (.fn f [] []) args) k u:=
 vu hs hc hk
variable{α:Type}{f:α->D}{o:List α}{h:Hp}{s e n:Nat}{ex fr:Bool}
theorem ixB(hs:h[s]?=some (e,.data 1 (o.map f) ex fr))(hn:o.length=n){i:Nat}(hi:i<n)(k:IntKind):ixV h 1 (.ref s e 0 n n n) (.d (.int k (i:Int)))=some (.ptr s e i n):=by simp only[ixV,aH,hs,if_true];rw[if_pos ⟨by simp[hn],aa,aa⟩];simp
theorem ldB(d:α)(hs:h[s]?=some (e,.data 1 (o.map f) ex fr))(hn:o.length=n){i:Nat}(hi:i<n):ld1 h (.ptr s e i n)=some (.d (f (nth d o i))):=by have hi':i<o.length:=aa;rw[gj d o i hi'];simp only[ld1,aH,hs,if_true,Zd,hn,List.getElem?_map,List.getElem?_eq_getElem hi',Option.map_some]
theorem stB(hs:h[s]?=some (e,.data 1 (o.map f) ex false))(hn:o.length=n){i:Nat}(hi:i<n){x:α}(hx:norm (f x)=f x):st h 1 (.ptr s e i n) (.d (f x))=some (h.set s (e,.data 1 ((o.set i x).map f) ex false)):=by
 have e1:(o.map f).take i++[f x]++(o.map f).drop (i+1)=(o.set i x).map f:=by
  rw[List.map_set,Yh,if_pos ak];simp
 simp only[st,if_true,sto,aH,hs,hO,toD,hx];rw[if_pos ⟨trivial,by simp[hn],ak⟩];simp only[cK,List.length_singleton,e1]
theorem ew(clr:LnQ)(i:Nat)(x0 x:Nat×Bk)(h0 h:Hp):bm clr i (x0::h0) (x::h)=(if mY clr i=true then x else(x0.1,.none))::bm clr (i+1) h0 h:=by cases x0;cases x;rfl
theorem iM(clr:LnQ)(i:Nat)(h:Hp):bm clr i [] h=h:=by cases h<;>rfl
theorem fU(clr:LnQ)(i:Nat)(x:Nat×Bk)(h:Hp):oJ clr i (x::h)=((!mY clr i||offB clr x.2)&&oJ clr (i+1) h):=by cases x;rfl
theorem Sr(clr:LnQ)(a:Acc)(L:Nat)(c:LdQ)(h:mY clr a.s=true):pL clr (a.v L c)=true:=by
 cases L with
 |zero=>rfl
 |succ n=>exact h
theorem Su(clr:LnQ)(a:Acc)(L:Nat)(c:LdQ)(h:offB clr a.b0=true):offB clr (a.b L c).2=true:=by
 cases L with
 |zero=>exact h
 |succ n=>rfl
theorem jf(clr:LnQ)(x:D):pL clr (.d x)=true:=rfl
theorem nY(clr:LnQ):offB clr .none=true:=rfl
theorem gN(s:Nat):mY [] s=true:=rfl
theorem dP(t:Nat)(l:LnQ)(s:Nat):mY (t::l) s=(!(Nat.beq t s)&&mY l s):=rfl
theorem beq_lit(a b:Nat):Nat.beq a b=decide (a=b):=by
 by_cases h:a=b
 .subst h;simp[Xe]
 .rw[decide_eq_false h];cases hb:Nat.beq a b with
  |false=>rfl
  |true=>exact absurd (Za hb) h
end Go.Vm
