/- Lemmas. -/
import Derived.Test.YtmfphhiejjamaaaGreatDoorQT
set_option linter.unusedVariables false
set_option linter.unusedSimpArgs false
namespace Go.Vm
open Go Go.Am Go.Big
variable{k:IntKind}{a i y z:Int}{T:(LwQ->Hp->Prop)->Prop}{clr:LnQ}{j L n' c d i1 cap w:Nat}{h' h0:Hp}{ys args ds:LwQ}{cells:LdQ}{b' t:Bool}{C:xB}{m:LLQ}
def W:Nat:=4294967296
theorem D4:W=4294967296:=rfl
theorem bc:2<=W:=ae
theorem mi:0<W:=ae
def u32(n:Nat):D:=.int .u32 n
def nat(n:Nat):V:=lst u32 (dig W n)
def len(n:Nat):Nat:=(dig W n).length
theorem jy{n k:Nat}(h:n<W^k):len n<=k:=(pN bc).2 h
theorem ym(l:LnQ)(hs:l.length<2^50)(k:KL)(hk:k (.exit 0) [lst u32 (iN l)] []):lp (iQ (CX Y)) [] [] [lst u32 l] [] k:=by
 have h50:(2:Nat)^50=1125899906842624:=ae
 induction hn:l.length generalizing l with
 | zero=>
  have:l=[]:=Zf hn;subst this;refine aj ?_;simp[iQ,biI];exact hk
 | succ n ih=>
  obtain⟨l,x,rfl⟩:∃l' x,l=l'++[x]:=⟨l.dropLast,l.getLast (by intro e;simp[e]at hn),(Xs _).symm⟩;have hl:l.length=n:=by simpa using hn
  refine aj ?_;have h0:0<(l++[x]).length:=af;have hlt:l.length<(l++[x]).length:=af;have e1:((l++[x]).length:Int)-1=l.length:=af;simp only[iQ,DJ,afV,AW,ahn];have hp:(0:Int)<((l++[x]).length:Int):=aa;simp only[CE hp,Uv hp,afV,AW];rw[rE (by simp at hs ⊢;omega)]
  simp only[e1,AW,aJ u32 (l++[x]) [] rfl hlt,ad7 u32 (l++[x]) [] hlt];simp only[show(l++[x])[l.length]=x by simp,u32,ahp,AW,fL];by_cases hx:x=0
  .subst hx;rw[if_pos aa];rw[afx _ _ h0 rfl af];simp only[AW,ad3,clean_nil,true_and,V6];rw[qW]at hk;exact ih l (by simp at hs;omega) hk hl
  .rw[if_neg aa];simp only[afS];rw[yG hx]at hk;exact hk
theorem nC{l:LnQ}(hl:aH W l)(hs:l.length<2^50):CP Y F.dv [lst u32 l] (nat (val W l)):=by refine r8 ?_;simp only[dv,List.replicate];refine ym l hs _ ?_;simp only[iP,DJ,nat,rR bc hl];exact aav ..
theorem vf{n:Nat}(hn:n<18446744073709551616):CP Y F.fY [.d (.int .u64 n)] (nat n):=by
 refine uH ?_;have hs:=Ew (k:=.u64) (l:=.u64) (a:=n) (b:=32) ae;have e32:(2:Nat)^32=4294967296:=ae;rw[e32]at hs;simp only[fY,List.replicate,pw,AW];rw[show((32:Int))=((32:Nat):Int)from rfl,hs];simp only[AW,pw];have hd:n/4294967296%4294967296=n/4294967296:=Yk aa;rw[hd]
 have hl:cR 2 [.int .u32 0] [(0,.d (.int .u32 ((n%4294967296:Nat):Int))),(1,.d (.int .u32 ((n/4294967296:Nat):Int)))] []=fun k=>k (lst u32 [n%4294967296,n/4294967296]) []:=by
  funext k;simp[cR,pZ,ze,jv,iH,toD,lst,u32]
 rw[hl]
 have hsm:aH W [n%4294967296,n/4294967296]:=by
  intro x hx;simp only[Zo,Ys,or_false,W]at hx ⊢;omega
 refine agp (nC hsm (show 2<2^50 by decide)) (by simp[aS]) ?_;have:val W [n%4294967296,n/4294967296]=n:=by simp only[val,W];omega
 rw[this];exact aav ..
theorem rL(a b:LnQ)(hab:a.length=b.length)(hs:a.length<2^40)(k:KL):∀i:Nat,i<=a.length->(N5 a b i=0->k (.exit 0) [] [])->(N5 a b i≠0->k .ret [I (N5 a b i)] []) ->
  lp (ir (CX Y) (lst u32 a) (lst u32 b)) [] [] [I ((i:Int)-1)] [] k
 | 0,_,h0,_=>by
  refine aj ?_;simp[ir];exact h0 rfl
 | i+1,hi,h0,h1=>by
  refine aj ?_;have ha:i<a.length:=aa;have hb:i<b.length:=aa;have h40:(2:Nat)^40=1099511627776:=ae;have e1:((i+1:Nat):Int)-1=i:=aa;simp only[ir,e1,DJ,aho,AW,fL];rw[if_pos aa];simp only[aJ u32 a [] rfl ha,aJ u32 b [] rfl hb,ad7 u32 _ [] ha,ad7 u32 _ [] hb,AW,u32,ahl,ahn,fL,Int.ofNat_lt]
  have ea:a.getD i 0=a[i]:=by simp[ha]
  have eb:b.getD i 0=b[i]:=by simp[hb]
  simp only[N5,ea,eb]at h0 h1;split
  .rename_i hlt;rw[if_pos hlt]at h1;exact h1 ae
  .rename_i hlt;rw[if_neg hlt]at h0 h1;split
   .rename_i hgt;rw[if_pos hgt]at h1;exact h1 ae
   .rename_i hgt;rw[if_neg hgt]at h0 h1;rw[rE aa];simp only[AW,ad3,clean_nil,true_and];exact rL a b hab hs k i aa h0 h1
theorem iG{a b:Nat}(ha:len a<2^40)(hb:len b<2^40):CP Y F.bm [nat a,nat b] (I (cmp a b)):=by
 have h40:(2:Nat)^40=1099511627776:=ae;refine qG ?_;simp only[bm,List.replicate,nat,afV,AW,ahk,fL,ahl];by_cases hl:(dig W a).length=(dig W b).length
 .rw[if_neg aa];rw[rE (by unfold len at ha;omega)];simp only[AW];have ho:=PV mi (cJ bc a) (cJ bc b) (dig W a).length (Z7 _) aa;rw[Wq,hl,Wq,iS bc,iS bc,<-hl]at ho;refine rL (dig W a) (dig W b) hl ha _ _ (Z7 _) (fun h0=>?_) (fun h0=>?_)
  .simp only[iP];rw[<-ho,h0];exact agU ..
  .simp only[AL,DL,DJ];rw[<-ho];exact agU ..
 .rw[if_pos aa];split
  .rename_i h;have:=JL bc (m:=a) (n:=b) aa;rw[show cmp a b = -1 by simp[cmp,this]];exact agU ..
  .rename_i h;have:=JL bc (m:=b) (n:=a) aa;rw[show cmp a b=1 by unfold cmp;rw[if_neg aa,if_pos this]];exact agU ..
theorem yy(a b:LnQ)(ha:aH W a)(hb:aH W b)(hab:b.length<=a.length)(hs:a.length<2^40)(k:KL)(h0:Hp)(hh:h0.length=1)(N:Nat)(hN:N=a.length+1):∀(r i c:Nat)(d:LnQ),d.length=i->i+r=N->aH W d->c<=1 ->
  (a.length<i->c=0)->(∀d':LnQ,d'.length=N->aH W d'->val W d'=val W d+W^i*(val W (a.drop i)+val W (b.drop i)+c)->k (.exit 0) [] [(1,.data 1 (d'.map u32) true false)]) ->
  lp (gG (CX Y) (lst u32 a) (lst u32 b) (.ref 0 1 0 N N N) (I N)) [] h0 [.d (.int .u64 c),I i] [(1,.data 1 ((d++List.replicate r 0).map u32) true false)] k:=by
 have h40:(2:Nat)^40=1099511627776:=ae;intro r
 induction r with
 | zero=>
  intro i c d hd hi hsm hc hc0 hk;refine aj ?_;simp only[gG,aii,ahl,AW,fL];rw[if_neg aa];simp only[afS]
  have:=hk d aa hsm (by
   rw[hc0 aa,Zb aa,Zb aa];simp[val])
  simpa using this
 | succ r ih=>
  intro i c d hd hi hsm hc hc0 hk;have hal:=ha.getD mi i;have hbl:=hb.getD mi i
  have SB:∀(l:LnQ)(hl:l.length<2^40)(h:Hp)(c x:Nat)(hx:x<W)(hxx:l.getD i 0=x)(hc:c<2*W)(q:LwQ->Hp->Prop),
    (if((i:Int)<(l.length:Int))then bnd (ixV h 1 (lst u32 l) (I i)) fun v=>bnd (ld1 h v) fun v=>bnd (cvI .u64 v) fun v=>bnd (biI .add (.d (.int .u64 c)) v) fun v=>q [v] h else q [.d (.int .u64 c)] h)=q [.d (.int .u64 ((c+x:Nat):Int))] h:=by
   intro l hl h c x hx hxx hc q;simp only[W]at hx hc;by_cases hi:i<l.length
   .rw[if_pos aa];simp only[aJ u32 l h rfl hi,ad7 u32 l h hi,AW,u32];have:l[i]=x:=by rw[<-hxx];simp[hi]
    rw[this,aex aa];simp only[AW];rw[yd aa];rfl
   .rw[if_neg aa];have:x=0:=by rw[<-hxx];simp[List.getElem?_eq_none (by omega:l.length<=i)]
    subst this;rfl
  have hdl:(d++List.replicate (r+1) 0).length=N:=by simp;omega
  refine aj ?_;simp only[gG,aii,DJ,ahl,AW,fL,afV];rw[if_pos aa,L3 (SB a hs _ c (a.getD i 0) hal rfl (by simp only[W];omega))];simp only[DJ];rw[L3 (SB b aa _ _ (b.getD i 0) hbl rfl (by simp only[W]at hal ⊢;omega))];simp only[DJ,pw,AW];generalize hx:a.getD i 0=x at *;generalize hy:b.getD i 0=y at *
  rw[uj (l:=d++List.replicate (r+1) 0) (f:=u32) rfl rfl aa aa];simp only[AW];rw[show(V.d (D.int IntKind.u32 ((c+x+y)%4294967296:Nat)))=.d (u32 ((c+x+y)%4294967296))from rfl,tQ (l:=d++List.replicate (r+1) 0) (f:=u32) rfl aa aa rfl];simp only[List.set_cons_zero]
  rw[show((32:Int))=((32:Nat):Int)from rfl,Ew (k:=.u64) (l:=.u64) ae,show(2:Nat)^32=4294967296 by decide];simp only[AW];rw[wE aa];simp only[AW,ad3,clean_nil,true_and];rw[Hs 0 h0 _ (by simp[hh]),<-hd,po,hd];simp only[W]at hal hbl
  refine ih (i+1) ((c+x+y)/4294967296) (d++[(c+x+y)%4294967296]) (by simp[hd]) aa (hsm.snoc (by simp only[W];omega)) aa (fun hlt=>?_) fun d' h1 h2 h3=>hk d' h1 h2 ?_
  .have ex:x=0:=by rw[<-hx];simp[List.getElem?_eq_none (by omega:a.length<=i)]
   have ey:y=0:=by rw[<-hy];simp[List.getElem?_eq_none (by omega:b.length<=i)]
   omega
  .rw[h3,Kn,hd,qC a i,qC b i,hx,hy,Nat.pow_succ,Nat.mul_assoc,Nat.add_assoc,<-Nat.mul_add];congr 2;simp only[W];omega
theorem nD{a b:Nat}(ha:len a<2^40)(hb:len b<2^40):CP Y F.dR [nat a,nat b] (nat (a+b)):=by
 have h40:(2:Nat)^40=1099511627776:=ae;refine sf ?_
 have body:∀(a b:Nat),len a<2^40->len b<=len a->∀hh:Hp,hh=[nnQ]->(bnd (bj (nat a)) fun v6=>bnd (biI .add v6 (.d (.int .i64 1))) fun v7=>mkS 0 4 [.int .u32 0] hh v7 v7 fun v8 h=>bnd (bj v8) fun v9=>
   lp (gG (CX Y) (nat a) (nat b) v8 v9) [] h [(.d (.int .u64 0)),(.d (.int .i64 0))] h (exK [((.exit 0),fun l10 h=>cal (CX Y).p h (.fn F.dv [] []) [v8] fun v11 h=>out (nat (a+b)) v11 h)])):=by
  intro a b ha hab hh hhe;subst hhe;simp only[len]at ha hab;simp only[nat,afV,AW];rw[wE aa];simp only[AW];refine xa (b:=.none) rfl aa aa ?_;simp only[bj,AW,List.set_cons_zero];have e0:List.replicate ((dig W a).length+1) (D.int IntKind.u32 0)=(([]:LnQ)++List.replicate ((dig W a).length+1) 0).map u32:=by simp[u32]
  rw[e0];refine yy (dig W a) (dig W b) (cJ bc a) (cJ bc b) hab aa _ _ rfl _ rfl _ 0 0 [] rfl aa (fun x hx=>by cases hx) aa (fun h=>rfl) fun d h1 h2 h3=>?_
  simp only[iP];simp only[Zj,iS bc,val,Nat.pow_zero,Xr,Zp,Nat.add_zero]at h3;have h50:(2:Nat)^50=1125899906842624:=ae;have ht:=nC h2 aa;rw[h3]at ht;exact OQ (mT (rG rfl h1.symm (Z7 _) h1.symm) (aeQ _)) ht (aav ..)
 simp only[dR,List.replicate,nat,afV,AW,ahl,fL,Dj];split
 .rename_i hlt;simp only[DJ,aii];have:=body b a hb (by unfold len;omega) _ rfl;rw[Xd b a]at this;exact this
 .rename_i hlt;simp only[DJ,aii];exact body a b ha (by unfold len;omega) _ rfl
theorem yL(a b:LnQ)(ha:aH W a)(hb:aH W b)(hab:b.length<=a.length)(hs:a.length<2^40)(k:KL)(h0:Hp)(hh:h0.length=1)(N:Nat)(hN:N=a.length):∀(r i c:Nat)(d:LnQ),d.length=i->i+r=N->aH W d->c<=1 ->
  (∀(d':LnQ)(c':Nat),d'.length=N->aH W d'->val W d'+W^i*(val W (b.drop i)+c)=val W d+W^i*val W (a.drop i)+W^N*c'->k (.exit 0) [] [(1,.data 1 (d'.map u32) true false)]) ->
  lp (jd (CX Y) (lst u32 a) (lst u32 b) (.ref 0 1 0 N N N) (I N)) [] h0 [I c,I i] [(1,.data 1 ((d++List.replicate r 0).map u32) true false)] k:=by
 have h40:(2:Nat)^40=1099511627776:=ae;intro r
 induction r with
 | zero=>
  intro i c d hd hi hsm hc hk;refine aj ?_;simp only[jd,aii,ahl,AW,fL];rw[if_neg aa];simp only[afS]
  have:=hk d c aa hsm (by
   rw[Zb aa,Zb aa,show i=N by omega];simp[val])
  simpa using this
 | succ r ih=>
  intro i c d hd hi hsm hc hk;have hia:i<a.length:=aa;have hal:=ha.getD mi i;have hbl:=hb.getD mi i;have hax:a[i]=a.getD i 0:=by simp[hia]
  have hdl:(d++List.replicate (r+1) 0).length=N:=by simp;omega
  refine aj ?_;simp only[jd,aii,DJ,ahl,AW,fL,afV];rw[if_pos aa];simp only[aJ u32 a _ rfl hia,ad7 u32 a _ hia,AW,u32,hax];generalize hx:a.getD i 0=x at *;generalize hy:b.getD i 0=y at *;simp only[W]at hal hbl;rw[abo,wrap_i64 aa];simp only[AW];rw[rE aa];simp only[AW]
  have subB:∀(h:Hp)(q:LwQ->Hp->Prop),(if((i:Int)<(b.length:Int))then bnd (ixV h 1 (lst u32 b) (I i)) fun v=>bnd (ld1 h v) fun v=>bnd (cvI .i64 v) fun v=>bnd (biI .sub (I ((x:Int)-c)) v) fun v=>q [v] h else q [I ((x:Int)-c)] h)=q [I ((x:Int)-c-y)] h:=by
   intro h q;by_cases hi:i<b.length
   .rw[if_pos aa];simp only[aJ u32 b h rfl hi,ad7 u32 b h hi,AW,u32];have:b[i]=y:=by rw[<-hy];simp[hi]
    rw[this,abo,wrap_i64 aa];simp only[AW];rw[rE aa];rfl
   .rw[if_neg aa];have:y=0:=by rw[<-hy];simp[List.getElem?_eq_none (by omega:b.length<=i)]
    subst this;simp
  rw[L3 (subB _)];simp only[DJ,ahl,AW,fL]
  have bor:∀(h:Hp)(q:LwQ->Hp->Prop),(if((x:Int)-c-y<0)then bnd (biI .add (I ((x:Int)-c-y)) (.d (.int .i64 4294967296))) fun v=>q [v,.d (.int .i64 1)] h else q [I ((x:Int)-c-y),.d (.int .i64 0)] h) =
    q [I ((if x<c+y then x+4294967296-(c+y)else x-(c+y):Nat):Int),I ((if x<c+y then 1 else 0:Nat):Int)] h:=by
   intro h q;by_cases hlt:x<c+y
   .rw[if_pos aa,if_pos hlt,if_pos hlt,FW aa];simp only[AW];rw[show((x:Int)-c-y+4294967296)=((x+4294967296-(c+y):Nat):Int) by omega];rfl
   .rw[if_neg aa,if_neg hlt,if_neg hlt];rw[show((x:Int)-c-y)=((x-(c+y):Nat):Int) by omega];rfl
  rw[L3 (bor _)];generalize hz:(if x<c+y then x+4294967296-(c+y)else x-(c+y))=z;generalize hc':(if x<c+y then 1 else 0:Nat)=c1;have hz4:z<4294967296:=by rw[<-hz];split<;>omega
  have hc1:c1<=1:=by rw[<-hc'];split<;>omega
  have heq:z+(y+c)=x+4294967296*c1:=by rw[<-hz,<-hc'];split<;>omega
  simp only[DJ,aii,pw,AW,Yk hz4];rw[uj (l:=d++List.replicate (r+1) 0) (f:=u32) rfl rfl aa aa];simp only[AW];rw[show(V.d (D.int IntKind.u32 (z:Nat)))=.d (u32 z)from rfl,tQ (l:=d++List.replicate (r+1) 0) (f:=u32) rfl aa aa rfl];simp only[List.set_cons_zero];rw[wE aa]
  simp only[AW,ad3,clean_nil,true_and];rw[Hs 0 h0 _ (by simp[hh]),<-hd,po,hd];refine ih (i+1) c1 (d++[z]) (by simp[hd]) aa (hsm.snoc (by simp only[W];omega)) hc1 fun d' c2 h1 h2 h3=>hk d' c2 h1 h2 ?_
  rw[Kn,hd,Nat.pow_succ,Nat.mul_assoc,Nat.mul_assoc]at h3;rw[qC a i,qC b i,hx,hy];generalize val W (b.drop (i+1))=vb at *;generalize val W (a.drop (i+1))=va at *
  have e1:W^i*(y+W*vb+c)+W^i*z=W^i*(W*(vb+c1))+W^i*x:=by
   rw[<-Nat.mul_add,<-Nat.mul_add];congr 1;simp only[W];omega
  rw[Nat.mul_add (W^i) x];omega
theorem ui{a b:Nat}(hba:b<=a)(ha:len a<2^40):CP Y F.fR [nat a,nat b] (nat (a-b)):=by
 have h40:(2:Nat)^40=1099511627776:=ae;have h50:(2:Nat)^50=1125899906842624:=ae;have hlt:a<W^(dig W a).length:=(pN bc).1 (Z7 _);have hbl:(dig W b).length<=(dig W a).length:=(pN bc).2 aa;refine sk ?_;simp only[len]at ha;simp only[fR,List.replicate,nat,afV,AW]
 refine xa (b:=.none) rfl aa aa ?_;simp only[List.set_cons_zero];have e0:List.replicate ((dig W a).length) (D.int IntKind.u32 0)=(([]:LnQ)++List.replicate ((dig W a).length) 0).map u32:=by simp[u32]
 rw[e0];refine yL (dig W a) (dig W b) (cJ bc a) (cJ bc b) hbl ha _ _ rfl _ rfl _ 0 0 [] rfl aa (fun x hx=>by cases hx) aa fun d c h1 h2 h3=>?_
 simp only[iP];simp only[Zj,iS bc,val,Nat.pow_zero,Xr,Zp,Nat.add_zero]at h3;have hd:=jE mi h2;rw[h1]at hd
 have hc:c=0:=by
  rcases Zd c with h|h
  .exact h
  .have:=Zw (W^(dig W a).length) h;omega
 subst hc;have ht:=nC h2 aa;rw[show val W d=a-b by omega]at ht;exact OQ (mT (rG rfl h1.symm (Z7 _) h1.symm) (aeQ _)) ht (aav ..)
theorem set_mid{α:Type}(p e t z:List α)(v w:α):(p++e++(w::t)++z).set (p.length+e.length) v=p++(e++[v])++t++z:=by rw[List.set_append_left _ _ af,X3 _ _ af];simp
theorem Br{α:Type}(p e t z:List α)(w:α)(h:p.length+e.length<(p++e++(w::t)++z).length):(p++e++(w::t)++z)[p.length+e.length]=w:=by rw[List.getElem_append_left af,List.getElem_append_right af];simp
theorem wX(b p z:LnQ)(x:Nat)(hx:x<W)(hb:aH W b)(hp:p.length+b.length+z.length<2^50)(k:KL)(h0:Hp)(hh:h0.length=1)(N:Nat)(hN:N=p.length+b.length+z.length):∀(r:Nat)(e t:LnQ)(c:Nat),
  t.length=r->e.length+r=b.length->aH W e->aH W t->c<W ->
  (∀(e':LnQ)(c':Nat),e'.length=b.length->aH W e'->c'<W->val W e'+W^b.length*c'=val W e+W^e.length*(val W t+c+x*val W (b.drop e.length))->k (.exit 2) [.d (.int .u64 c')] [(1,.data 1 ((p++e'++z).map u32) true false)]) ->
  lp (gB (CX Y) (.ref 0 1 0 N N N) (I p.length) (.d (.int .u32 x)) (lst u32 b) (I b.length)) [] h0 [.d (.int .u64 c),I e.length] [(1,.data 1 ((p++e++t++z).map u32) true false)] k:=by
 have h50:(2:Nat)^50=1125899906842624:=ae;intro r
 induction r with
 | zero=>
  intro e t c ht he hse hst hc hk;have:t=[]:=Zf ht;subst this;refine aj ?_;simp only[gB,aii,ahl,AW,fL];rw[if_neg aa];simp only[afS,DJ]
  have:=hk e c aa hse hc (by
   rw[Zb aa,show e.length=b.length by omega];simp[val])
  simpa using this
 | succ r ih=>
  intro e t c ht he hse hst hc hk
  obtain ⟨w,t,rfl⟩:∃w t',t=w::t':=by
   cases t with
   |nil=>simp at ht
   |cons w t=>exact⟨w,t,rfl⟩
  have hw:=hst w af;have hib:e.length<b.length:=aa;have hy:=hb.get hib;have hlen:(p++e++(w::t)++z).length=N:=by simp at ht ⊢;omega
  refine aj ?_;simp only[gB,aii,DJ,ahl,AW,fL];rw[if_pos aa];simp only[aJ u32 b _ rfl hib,ad7 u32 b _ hib,AW,u32];generalize hyy:b[e.length]=y at *;have hxy:x*y<=4294967295*4294967295:=Zn (by simp only[W]at hx;omega) (by simp only[W]at hy;omega);simp only[W]at hx hy hw hc
  rw[aex aa,AW,aex aa,AW,Dy aa,AW,addN aa];simp only[AW];rw[uj (l:=p++e++(w::t)++z) (f:=u32) rfl rfl aa hlen.symm];simp only[AW];rw[Cq (l:=p++e++(w::t)++z) (f:=u32) (ex:=true) (fr:=false) rfl aa hlen.symm,Br];simp only[AW,u32]
  rw[aex aa,AW,yd aa,AW,yd aa];simp only[AW,pw];generalize hs:c+(x*y+w)=s at *;rw[show(V.d (D.int IntKind.u32 ((s%4294967296:Nat):Int)))=.d (u32 (s%4294967296))from rfl];rw[tQ (l:=p++e++(w::t)++z) (f:=u32) rfl aa hlen.symm rfl];simp only[List.set_cons_zero]
  rw[show((32:Int))=((32:Nat):Int)from rfl,Ew (k:=.u64) (l:=.u64) ae,show(2:Nat)^32=4294967296 by decide];simp only[AW];rw[wE aa];simp only[AW,ad3,clean_nil,true_and];rw[Hs 0 h0 _ (by simp[hh]),set_mid];have hel:(e++[s%4294967296]).length=e.length+1:=af
  have:=ih (e++[s%4294967296]) t (s/4294967296) (by simpa using ht) aa (hse.snoc (by simp only[W];omega)) (fun q hq=>hst q (by simp[hq])) (by simp only[W];omega) fun e' c' h1 h2 h3 h4=>hk e' c' h1 h2 h3 ?_
  .rw[hel]at this;exact this
  .rw[h4,Kn,hel,Nat.pow_succ,Nat.mul_assoc,Nat.add_assoc,<-Nat.mul_add,qC b e.length,show b.getD e.length 0=y by simp[hib,hyy]];congr 2;simp only[val];generalize val W (b.drop (e.length+1))=vb at *;rw[Nat.mul_add x,<-Nat.mul_assoc x W,Zt x W,Nat.mul_assoc W x];generalize x*vb=xv at *;simp only[W];omega
theorem tW(a b:LnQ)(ha:aH W a)(hb:aH W b)(hs:a.length<2^40)(hs2:b.length<2^40)(k:KL)(h0:Hp)(hh:h0.length=1)(N:Nat)(hN:N=a.length+b.length):∀(r i:Nat)(d:LnQ),d.length=i+b.length->i+r=a.length->aH W d ->
  (∀d':LnQ,d'.length=N->aH W d'->val W d'=val W d+W^i*(val W (a.drop i)*val W b)->k (.exit 0) [] [(1,.data 1 (d'.map u32) true false)]) ->
  lp (gD (CX Y) (lst u32 b) (.ref 0 1 0 N N N) (lst u32 a) (I a.length)) [] h0 [I i] [(1,.data 1 ((d++List.replicate r 0).map u32) true false)] k:=by
 have h40:(2:Nat)^40=1099511627776:=ae;have h50:(2:Nat)^50=1125899906842624:=ae;intro r
 induction r with
 | zero=>
  intro i d hd hi hsm hk;refine aj ?_;simp only[gD,DJ,ahl,AW,fL];rw[if_neg aa];simp only[afS];have:=hk d aa hsm (by rw[Zb aa];simp[val]);simpa using this
 | succ r ih=>
  intro i d hd hi hsm hk;have hia:i<a.length:=aa;have hx:=ha.get hia;refine aj ?_;simp only[gD,DJ,ahl,AW,fL,afV];rw[if_pos aa];simp only[aJ u32 a _ rfl hia,ad7 u32 a _ hia,AW];generalize hxx:a[i]=x at *;have hpl:(d.take i).length=i:=by rw[Zr];omega
  have htl:(d.drop i).length=b.length:=by rw[Yo];omega
  have hdd:d++List.replicate (r+1) 0=d.take i++[]++d.drop i++List.replicate (r+1) 0:=af;rw[hdd];have key:=wX b (d.take i) (List.replicate (r+1) 0) x hx hb (by rw[hpl,Zh];omega);rw[hpl]at key;refine key _ _ rfl N bK b.length [] (d.drop i) 0 htl af (fun q hq=>by cases hq) (hsm.drop i) mi fun e c h1 h2 h3 h4=>?_
  simp only[iP,AW,DJ];rw[addN aa];simp only[AW,pw];have hlen:(d.take i++e++List.replicate (r+1) 0).length=N:=by simp[hpl,h1];omega
  rw[uj (l:=d.take i++e++List.replicate (r+1) 0) (f:=u32) rfl rfl aa hlen.symm];simp only[AW];have hcm:c%4294967296=c:=Yk h3;rw[hcm,show(V.d (D.int IntKind.u32 (c:Nat)))=.d (u32 c)from rfl,tQ (l:=d.take i++e++List.replicate (r+1) 0) (f:=u32) rfl aa hlen.symm rfl];simp only[List.set_cons_zero];rw[wE aa]
  simp only[AW,ad3,clean_nil,true_and]
  have bS:(d.take i++e++List.replicate (r+1) 0).set (i+b.length) c=(d.take i++e++[c])++List.replicate r 0:=by
   have:i+b.length=(d.take i++e).length:=by simp[hpl,h1]
   rw[this,po]
  rw[Hs 0 h0 _ (by simp[hh]),bS];refine ih (i+1) (d.take i++e++[c]) (by simp[hpl,h1];omega) aa (((hsm.take i).append h2).snoc h3) fun d' g1 g2 g3=>hk d' g1 g2 ?_
  have hv:val W d=val W (d.take i)+W^i*val W (d.drop i):=by
   have:=val_append (B:=W) (d.take i) (d.drop i);rw[Yi,hpl]at this;exact this
  rw[g3,List.append_assoc,val_append,hpl,Kn,h1,h4,hv,qC a i,show a.getD i 0=x by simp[hia,hxx]];simp only[val,List.length_nil,Nat.pow_zero,Xr,Zp,Nat.add_zero,Zj];rw[Nat.pow_succ,Nat.mul_assoc,Nat.add_assoc,Nat.add_assoc,<-Nat.mul_add,<-Nat.mul_add];congr 2;rw[Nat.add_mul,Nat.mul_assoc,Nat.add_assoc]
theorem jU{a b:Nat}(ha:len a<2^40)(hb:len b<2^40):CP Y F.b6 [nat a,nat b] (nat (a*b)):=by
 have h40:(2:Nat)^40=1099511627776:=ae;have h50:(2:Nat)^50=1125899906842624:=ae;refine o6 ?_;simp only[len]at ha hb;simp only[b6,List.replicate,nat,afV,AW];rw[addN aa];simp only[AW];refine xa (b:=.none) rfl aa aa ?_;simp only[List.set_cons_zero]
 have e0:List.replicate ((dig W a).length+(dig W b).length) (D.int IntKind.u32 0)=(List.replicate (dig W b).length 0++List.replicate (dig W a).length 0).map u32:=by
  rw[X2];simp[u32,Xd]
 rw[e0];refine tW (dig W a) (dig W b) (cJ bc a) (cJ bc b) ha hb _ _ rfl _ rfl _ 0 _ af aa (fun x hx=>by rw[List.mem_replicate]at hx;rw[hx.2];exact mi) fun d h1 h2 h3=>?_
 simp only[iP];rw[oW,Zj,iS bc,iS bc,Nat.pow_zero,Xr,Zp]at h3;have ht:=nC h2 aa;rw[h3]at ht;exact OQ (mT (rG rfl h1.symm (Z7 _) h1.symm) (aeQ _)) ht (aav ..)
inductive PU{α:Type}(k:α):Type where
 |mk
def rn{α:Type}(T:(α->Prop)->Prop)(k:α->Prop)(u:PU k):Prop:=T k
def rh{α β:Type}(T:(α->β->Prop)->Prop)(k:α->β->Prop)(u:PU k):Prop:=T k
def rl(T:KL->Prop)(k:KL)(u:PU k):Prop:=T k
def br(p A B:Prop)(u:PU A)(w:PU B):Prop:=(p->A)∧(¬p->B)
def jo(k:LwQ->Hp->Prop)(T:(LwQ->Hp->Prop)->Prop)(u:PU k)(w:PU T):Prop:=T k
theorem XZ{p A B:Prop}{u:PU A}{w:PU B}(h1:p->A)(h2:¬p->B):br p A B u w:=⟨h1,h2⟩
@[simp]theorem ahc(A B:Prop)(u:PU A)(w:PU B):br True A B u w=A:=by simp[br]
@[simp]theorem agr(A B:Prop)(u:PU A)(w:PU B):br False A B u w=B:=by simp[br]
@[simp]theorem aiv{p A B:Prop}{u:PU A}{w:PU B}(h:p):br p A B u w=A:=by simp_all
@[simp]theorem aiw{p A B:Prop}{u:PU A}{w:PU B}(h:¬p):br p A B u w=B:=by simp_all
theorem jD{k:LwQ->Hp->Prop}{u:PU k}{w:PU T}{l:LwQ}{h:Hp}(hT:∀q,T q=q l h)(hk:k l h):jo k T u w:=by grind[jo]
theorem aT{k:LwQ->Hp->Prop}{u:PU k}{w:PU T}(h:T k):jo k T u w:=h
@[simp ↓] theorem aix (o:Option V)(k:V->Prop):bnd o k=rn (bnd o) k .mk:=id rfl
@[simp ↓] theorem ain (x:V)(i:Nat)(k:V->Prop):ext x i k=rn (ext x i) k .mk:=id rfl
@[simp ↓] theorem agY (h:Hp)(op:BinOp)(x y:V)(k:V->Prop):rj h op x y k=rn (rj h op x y) k .mk:=id rfl
@[simp ↓] theorem aiq (b:Bool)(A B:Prop):cnd (.d (.bool b)) A B=br (b=true) A B .mk .mk:=by cases b<;>simp[cnd,br]
@[simp ↓] theorem ag6 (b:Bool)(h:Hp)(T:kkQ->Prop)(k:kkQ):gd (.d (.bool b)) true h T k=br (b=true) (T k) (k (.tup []) h) .mk .mk:=by cases b<;>simp[gd,br]
@[simp ↓] theorem af9 (b:Bool)(h:Hp)(T:kkQ->Prop)(k:kkQ):gd (.d (.bool b)) false h T k=br (b=false) (T k) (k (.tup []) h) .mk .mk:=by cases b<;>simp[gd,br]
@[simp ↓] theorem af8 (w:Bool)(h:Hp)(T:kkQ->Prop)(k:kkQ):gd (.tup []) w h T k=k (.tup []) h:=id rfl
@[simp ↓] theorem aiK (k:LwQ->Hp->Prop)(T:(LwQ->Hp->Prop)->Prop):jn k T=jo k T .mk .mk:=id rfl
@[simp ↓] theorem ais (C:xB)(h:Hp)(c:V)(args:LwQ)(k:kkQ):cal C h c args k=rh (cal C h c args) k .mk:=id rfl
@[simp ↓] theorem ait (C:qz)(h:Hp)(c:V)(args:LwQ)(s:Nat)(k:kkQ):cai C h c args s k=rh (cai C h c args s) k .mk:=id rfl
@[simp ↓] theorem ahb (C:qz)(h:Hp)(c:V)(args:LwQ)(s:Nat)(k:kkQ):XV C h c args s k=rh (XV C h c args s) k .mk:=id rfl
@[simp ↓] theorem aiD (s:Nat)(cs:LwQ)(h:Hp)(k:kkQ):alV s cs h k=rh (alV s cs h) k .mk:=id rfl
@[simp ↓] theorem aiE (s n:Nat)(cs:LdQ)(h:Hp)(k:kkQ):alD s n cs h k=rh (alD s n cs h) k .mk:=id rfl
@[simp ↓] theorem ahd (s:Nat)(v:V)(h:Hp)(k:kkQ):cQ s v h k=rh (cQ s v h) k .mk:=id rfl
@[simp ↓] theorem ag1 (len:Nat)(z:LdQ)(ps:List (Nat×V))(h:Hp)(k:kkQ):cR len z ps h k=rh (cR len z ps h) k .mk:=id rfl
@[simp ↓] theorem ag0 (s len:Nat)(z:LdQ)(ps:List (Nat×V))(h:Hp)(k:kkQ):rq s len z ps h k=rh (rq s len z ps h) k .mk:=id rfl
@[simp ↓] theorem aia (s by_:Nat)(z:LdQ)(h:Hp)(l c:V)(k:kkQ):mkS s by_ z h l c k=rh (mkS s by_ z h l c) k .mk:=id rfl
@[simp ↓] theorem ahD (h:Hp)(n:Nat)(p v:V)(k:kkQ):stD h n p v k=rh (stD h n p v) k .mk:=id rfl
@[simp ↓] theorem aiz (dr:Bool)(s n by_:Nat)(x y:V)(h:Hp)(k:kkQ):apV dr s n by_ x y h k=rh (apV dr s n by_ x y h) k .mk:=id rfl
@[simp ↓] theorem aiy (dr:Bool)(s n by_:Nat)(z:LdQ)(x y:V)(h:Hp)(k:kkQ):apZ dr s n by_ z x y h k=rh (apZ dr s n by_ z x y h) k .mk:=id rfl
@[simp ↓] theorem aiH (st:aL)(clr:LnQ)(h0:Hp)(l:LwQ)(h:Hp)(k:KL):lp st clr h0 l h k=rl (lp st clr h0 l h) k .mk:=id rfl
@[simp ↓] theorem aik (v:V)(h:Hp)(k:kkQ):fzD v h k=rh (fzD v h) k .mk:=id rfl
def rk(T:(Exit->Hp->Prop)->Prop)(k:Exit->Hp->Prop)(u:PU k):Prop:=T k
@[simp ↓] theorem ah5 (o:Option (List LvQ))(n:Nat)(st:CH)(clr:LnQ)(h:Hp)(k:Exit->Hp->Prop):rgO o n st clr h k=rk (rgO o n st clr h) k .mk:=id rfl
theorem ro{o:Option (List LvQ)}{xs:List LvQ}{n:Nat}{st:CH}{h:Hp}{k:Exit->Hp->Prop}{u:PU k}(hq:o=some xs)(hr:rg n st clr h k xs h):rk (rgO o n st clr h) k u:=by subst hq;exact hr
@[simp]theorem ahZ(v:V)(k:V->Prop)(u:PU k):rn (bnd (some v)) k u=k v:=id rfl
@[simp]theorem ahX(vs:LwQ)(i:Nat)(k:V->Prop)(u:PU k):rn (ext (.tup vs) i) k u=rn (bnd vs[i]?) k u:=id rfl
attribute [simp] Uv aaq Int.natCast_inj
@[simp]theorem afF(b:Bool)(x y:V):qM (.d (.bool (!b))) x y=qM (.d (.bool b)) y x:=by cases b<;>rfl
@[simp]theorem uo{n:Int}(h1 : -9223372036854775808<=n)(h2:n<=9223372036854775807):IntKind.wrap .i64 n=n:=wrap_i64 ⟨h1,h2⟩
@[simp]theorem Nj{n:Int}(h1:0<=n)(h2:n<18446744073709551616):IntKind.wrap .u64 n=n:=wrap_u64 ⟨h1,h2⟩
@[simp]theorem adf{n:Int}(h1:0<=n)(h2:n<4294967296):IntKind.wrap .u32 n=n:=wrap_u32 ⟨h1,h2⟩
@[simp]theorem wrap_u8'{n:Int}(h1:0<=n)(h2:n<256):IntKind.wrap .u8 n=n:=Nk rfl ⟨h1,h2⟩
attribute [simp] x9 rT vJ
@[simp]theorem abM{b:Int}(hb:b≠0):biI .rem (.d (.int k a)) (.d (.int k b))=some (.d (.int k (a.tmod b))):=by simp[biI,ib,mr,jp,hb]
@[simp]theorem ahj{b:Int}(hb:b≠0):biI .quo (.d (.int k a)) (.d (.int k b))=some (.d (.int k (k.wrap (a.tdiv b)))):=by simp[biI,ib,mr,jp,hb]
theorem JX{l:IntKind}{b:Int}(h0:0<=b)(hb:b.toNat<=k.bits):biI .shr (.d (.int k a)) (.d (.int l b))=some (.d (.int k (a/2^b.toNat))):=by
 have h1:¬(b<0):=aa
 grind[biI,ib,mr,jp]
theorem AX{l:IntKind}{b:Int}(h0:0<=b)(hb:b.toNat<=k.bits):biI .shl (.d (.int k a)) (.d (.int l b))=some (.d (.int k (k.wrap (a*2^b.toNat)))):=by
 have h1:¬(b<0):=aa
 grind[biI,ib,mr,jp]
@[simp]theorem agv:IntKind.bits .i64=64:=rfl
@[simp]theorem agt:IntKind.bits .u64=64:=rfl
@[simp]theorem agu:IntKind.bits .u32=32:=rfl
@[simp]theorem ahg:IntKind.bits .u8=8:=rfl
@[simp]theorem ZY{l:IntKind}{b:Int}(h0:0<=b)(hb:b<=64):biI .shr (.d (.int .i64 a)) (.d (.int l b))=some (.d (.int .i64 (a/2^b.toNat))):=JX h0 bK
@[simp]theorem agO{l:IntKind}{b:Int}(h0:0<=b)(hb:b<=64):biI .shl (.d (.int .i64 a)) (.d (.int l b))=some (.d (.int .i64 (IntKind.wrap .i64 (a*2^b.toNat)))):=AX h0 bK
@[simp]theorem agK{l:IntKind}{b:Int}(h0:0<=b)(hb:b<=64):biI .shr (.d (.int .u64 a)) (.d (.int l b))=some (.d (.int .u64 (a/2^b.toNat))):=JX h0 bK
@[simp]theorem agM{l:IntKind}{b:Int}(h0:0<=b)(hb:b<=64):biI .shl (.d (.int .u64 a)) (.d (.int l b))=some (.d (.int .u64 (IntKind.wrap .u64 (a*2^b.toNat)))):=AX h0 bK
@[simp]theorem agL{l:IntKind}{b:Int}(h0:0<=b)(hb:b<=32):biI .shr (.d (.int .u32 a)) (.d (.int l b))=some (.d (.int .u32 (a/2^b.toNat))):=JX h0 bK
@[simp]theorem agN{l:IntKind}{b:Int}(h0:0<=b)(hb:b<=32):biI .shl (.d (.int .u32 a)) (.d (.int l b))=some (.d (.int .u32 (IntKind.wrap .u32 (a*2^b.toNat)))):=AX h0 bK
@[simp]theorem agH(k:IntKind)(n:Int):unV .neg (.d (.int k n))=some (.d (.int k (k.wrap (-n)))):=by simp[unV,ib,mr,jp]
def nth{α:Type}(d:α)(l:List α)(i:Nat):α:=l.getD i d
theorem aN{α:Type}(d:α)(l:List α)(i:Nat)(h:i<l.length):nth d l i=l[i]:=by simp[nth,h]
@[simp]theorem bM{α:Type}(d:α)(p:List α)(x:α)(q:List α):nth d (p++x::q) p.length=x:=by simp[nth]
variable{α:Type}(f:α->D)
@[simp] theorem kv (l:List α)(h:Hp)(h0:0<=i)(h1:i<l.length):ixV h 1 (lst f l) (.d (.int k i))=some (.dptr (l.map f) i.toNat):=
 aJ f l h (Wy h0).symm aa
theorem aC(d:α)(l:List α)(h:Hp)(hl:j<l.length):ld1 h (.dptr (l.map f) j)=some (.d (f (nth d l j))):=by rw[ad7 f l h hl,aN d l j hl]
@[simp] theorem aig (p:List α)(x:α)(q:List α)(h:Hp)(k:IntKind):ixV h 1 (lst f (p++x::q)) (.d (.int k p.length))=some (.dptr ((p++x::q).map f) p.length):=
 aJ f _ h rfl af
omit f in
@[simp] theorem aie (a:LdQ)(x:D)(b:LdQ)(h:Hp)(hj:j=a.length):ld1 h (.dptr (a++x::b) j)=some (.d x):=by subst hj;simp[ld1]
omit f in
@[simp]theorem aiJ(x:D)(b:LdQ)(h:Hp):ld1 h (.dptr (x::b) 0)=some (.d x):=by rfl
variable{α:Type}(f:α->D)(l:List α)
@[simp]theorem afq(h:Hp)(h0:0<=i)(h1:i<=l.length)(hp:0<l.length):slV h 1 (lst f l) none (some (I i))=some (lst f (l.take i.toNat)):=afx f l hp aa aa
@[simp]theorem aiF(h:Hp)(h0:0<=i)(h1:i<=l.length)(hp:0<l.length):slV h 1 (lst f l) (some (I i)) none=some (lst f (l.drop i.toNat)):=afw f l hp aa aa
@[simp] theorem aiM (len n:Nat)(cs:LdQ)(off:Nat)(h0:0<=i)(h1:i<len):ixP len n (.dptr cs off) (.d (.int k i))=some (.dptr cs (off+i.toNat*n)):=by simp only[ixP];rw[if_pos ⟨h0,h1⟩]
@[simp] theorem aiL (len n:Nat)(s e off tot:Nat)(h0:0<=i)(h1:i<len):ixP len n (.ptr s e off tot) (.d (.int k i))=some (.ptr s e (off+i.toNat*n) tot):=by simp only[ixP];rw[if_pos ⟨h0,h1⟩]
theorem af0(h:Hp)(cs:LdQ)(pos:Nat){x:D}(hx:cs[pos]?=some x):ld1 h (.dptr cs pos)=some (.d x):=by grind[ld1]
def qm{α:Type}(f:α->LdQ)(l:List α):V:=.d (.sl l.length (l.flatMap f))
section
variable{α:Type}(f:α->LdQ){n:Nat}(hf:∀x,(f x).length=n)
include hf
theorem d6(l:List α):(l.flatMap f).length=l.length*n:=by
 induction l with
 |nil=>simp
 |cons x l ih=>grind
theorem MG(d:α)(l:List α)(hj:j<l.length):cut (l.flatMap f) (j*n) n=some (f (nth d l j)):=by
 have hle:j*n+n<=(l.flatMap f).length:=by
  rw[d6 f hf,<-X5];exact Zz n hj
 simp only[cut,if_pos hle,Z9];clear hle
 induction l generalizing j with
 |nil=>cases hj
 | cons x l ih=>
  cases j with
  |zero=>grind[nth]
  | succ j=>
   grind[X5,List.drop_drop,List.drop_left,nth]
theorem oU(l:List α)(h:Hp)(h0:0<=i)(h1:i<l.length):ixV h n (qm f l) (.d (.int k i))=some (.dptr (l.flatMap f) (i.toNat*n)):=by grind[ixV,qm,d6]
theorem ot(d:α)(l:List α)(h:Hp)(hj:j<l.length):ldA h n (.dptr (l.flatMap f) (j*n))=some (.agg ((f (nth d l j)).map .d)):=by grind[ldA,MG]
end
@[simp]theorem aeY{α:Type}(f:α->LdQ)(l:List α):bj (qm f l)=some (I l.length):=id rfl
@[simp]theorem aeR{α:Type}(h:Hp)(f:α->LdQ)(l:List α):bJ h (qm f l)=some (qm f l,h):=by rfl
def tS(place:Nat->Option (Nat×Nat))(cs:LwQ)(ps:List (Nat×V)):Option LwQ:=pZ place cs ps
@[simp]theorem ae6(place:Nat->Option (Nat×Nat))(cs:LwQ):tS place cs []=some cs:=id rfl
def Mm(o:Option (Nat×Nat))(place:Nat->Option (Nat×Nat))(cs:LwQ)(v:V)(r:List (Nat×V)):Option LwQ:=match o with
 |none=>none
 | some (off,sz)=>match ze v with
  |none=>none
  |some vs=>if vs.length=sz∧off+vs.length<=cs.length then tS place (cs.take off++vs++cs.drop (off+vs.length)) r else none
@[simp]theorem aem(place:Nat->Option (Nat×Nat))(cs:LwQ)(i:Nat)(v:V)(r:List (Nat×V)):tS place cs ((i,v)::r)=Mm (place i) place cs v r:=id rfl
@[simp] theorem ag7 (place:Nat->Option (Nat×Nat))(cs:LwQ)(x:D)(r:List (Nat×V))(off sz:Nat):
  Mm (some (off,sz)) place cs (.d x) r=if 1=sz∧off+1<=cs.length then tS place (cs.take off++[.d x]++cs.drop (off+1)) r else none:=id rfl
@[simp] theorem ae9 (place:Nat->Option (Nat×Nat))(cs:LwQ)(vs:LwQ)(r:List (Nat×V))(off sz:Nat):
  Mm (some (off,sz)) place cs (.agg vs) r=if vs.length=sz∧off+vs.length<=cs.length then tS place (cs.take off++vs++cs.drop (off+vs.length)) r else none:=id rfl
@[simp] theorem ae7 (place:Nat->Option (Nat×Nat))(cs:LwQ)(a b c d e f:Nat)(r:List (Nat×V))(off sz:Nat):
  Mm (some (off,sz)) place cs (.ref a b c d e f) r=if 1=sz∧off+1<=cs.length then tS place (cs.take off++[.ref a b c d e f]++cs.drop (off+1)) r else none:=id rfl
def aeG(fs:List (Nat×Nat))(z:LdQ)(ps:List (Nat×V)):Option V:=bld fs z ps
def aeF(n:Nat)(z:LdQ)(ps:List (Nat×V)):Option V:=Sx n z ps
@[simp]theorem ah0(fs:List (Nat×Nat))(z:LdQ)(ps:List (Nat×V))(k:V->Prop)(u:PU k):rn (bnd (bld fs z ps)) k u=rn (bnd (aeG fs z ps)) k u:=id rfl
@[simp]theorem agQ(n:Nat)(z:LdQ)(ps:List (Nat×V))(k:V->Prop)(u:PU k):rn (bnd (Sx n z ps)) k u=rn (bnd (aeF n z ps)) k u:=id rfl
@[simp]theorem ahf(fs:List (Nat×Nat))(z:LdQ)(ps:List (Nat×V)):aeG fs z ps=(tS (fun i=>fs[i]?) (z.map .d) ps).map .agg:=id (by unfold aeG bld tS;cases pZ (fun i=>fs[i]?) (z.map .d) ps<;>rfl)
@[simp]theorem ahe(n:Nat)(z:LdQ)(ps:List (Nat×V)):aeF n z ps=(tS (fun i=>some (i*n,n)) (z.map .d) ps).map .agg:=id (by unfold aeF Sx tS;cases pZ (fun i=>some (i*n,n)) (z.map .d) ps<;>rfl)
@[simp]theorem ail(off n:Nat)(vs:LwQ):fiV off n true (.agg vs)=vs[off]?:=id rfl
@[simp]theorem ag8(cs:LdQ)(o off:Nat):faV off (.dptr cs o)=some (.dptr cs (o+off)):=id rfl
@[simp]theorem aim(s e o tot off:Nat):faV off (.ptr s e o tot)=some (.ptr s e (o+off) tot):=id rfl
def bnh{α:Type}(o:Option α)(k:α->Prop):Prop:=match o with
 |some x=>k x
 |none=>False
@[simp]theorem ahY{α:Type}(x:α)(k:α->Prop)(u:PU k):rn (bnh (some x)) k u=k x:=id rfl
@[simp] theorem ah1 (h:Hp)(n:Nat)(p v:V)(k:kkQ)(u:PU k):rh (stD h n p v) k u=rn (bnh (st h n p v)) (fun h'=>k .junk h') .mk:=by unfold rh rn stD bnh;cases st h n p v<;>rfl
theorem Dv(h:Hp)(s:Nat)(b:Bk)(k:Nat->Hp->Prop):new h s b k=bnh h[s]? fun x=>k (x.1+1) (h.set s (x.1+1,b)):=by grind[new,bnh]
@[simp]theorem ah3(s:Nat)(cs:LwQ)(h:Hp)(k:kkQ)(u:PU k):rh (alV s cs h) k u=rn (bnh h[s]?) (fun x=>k (.ptr s (x.1+1) 0 cs.length) (h.set s (x.1+1,.vars cs))) .mk:=by unfold rh rn alV;exact Dv ..
@[simp]theorem agT(s:Nat)(vs:LwQ)(h:Hp)(k:kkQ)(u:PU k):rh (cQ s (.agg vs) h) k u=rh (alV s vs h) k u:=id rfl
@[simp]theorem afA(s:Nat)(x:D)(h:Hp)(k:kkQ)(u:PU k):rh (cQ s (.d x) h) k u=rh (alV s [.d x] h) k u:=id rfl
def cO(len:Nat)(z:LdQ)(ps:List (Nat×V))(h:Hp):Option (LdQ×Hp):=match tS (fun i=>some (i*z.length,z.length)) ((jv len z).map .d) ps with
 |some vs=>if 0<z.length∧len*z.length<=16777216 then iH h vs else none
 |none=>none
@[simp] theorem agS (len:Nat)(z:LdQ)(ps:List (Nat×V))(h:Hp)(k:kkQ)(u:PU k):rh (cR len z ps h) k u=rn (bnh (cO len z ps h)) (fun x=>k (.d (.sl len x.1)) x.2) .mk:=by
 unfold rh rn cR cO bnh tS;cases pZ (fun i=>some (i*z.length,z.length)) ((jv len z).map .d) ps with
 |none=>rfl
 | some vs=>
  simp only;split
  .cases iH h vs<;>rfl
  .rfl
@[simp] theorem agR (s len:Nat)(z:LdQ)(ps:List (Nat×V))(h:Hp)(k:kkQ)(u:PU k):rh (rq s len z ps h) k u=rn (bnh (cO len z ps h)) (fun x=>rn (bnh x.2[s]?) (fun y=>k (.ref s (y.1+1) 0 len len x.1.length) (x.2.set s (y.1+1,.data z.length x.1 true false))) .mk) .mk:=by
 unfold rh rn rq cO bnh tS;cases pZ (fun i=>some (i*z.length,z.length)) ((jv len z).map .d) ps with
 |none=>rfl
 | some vs=>
  simp only;split
  .cases iH h vs with
   |none=>rfl
   |some x=>simp only[Dv];rfl
  .rfl
def fh(h:Hp)(s e:Nat):Bk:=aw h s e
@[simp]theorem aec(e0:Nat)(b:Bk)(h:Hp)(e:Nat):fh ((e0,b)::h) 0 e=if e0=e then b else .none:=id rfl
@[simp]theorem aed(x:Nat×Bk)(h:Hp)(s e:Nat):fh (x::h) (s+1) e=fh h s e:=id rfl
@[simp]theorem ae4(x:Nat×Bk)(h:Hp)(e:Nat):fh (x::h) 1 e=fh h 0 e:=id rfl
@[simp]theorem ae3(x:Nat×Bk)(h:Hp)(e:Nat):fh (x::h) 2 e=fh h 1 e:=id rfl
@[simp]theorem acz(x:Nat×Bk)(h:Hp)(e:Nat):fh (x::h) 3 e=fh h 2 e:=id rfl
@[simp]theorem aee(x:Nat×Bk)(h:Hp)(e:Nat):fh (x::h) 4 e=fh h 3 e:=id rfl
def VD(b:Bk)(off tot:Nat):Option V:=match b with
 |.vars cs=>if tot=cs.length then cs[off]? else none
 |.data _ cs _ _=>if tot=cs.length then cs[off]?.map .d else none
 |.none=>none
def RZ(b:Bk)(n off tot:Nat):Option V:=match b with
 |.vars cs=>if tot=cs.length then(cut cs off n).map .agg else none
 |.data _ cs _ _=>if tot=cs.length then(cut cs off n).map fun l=>.agg (l.map .d)else none
 |.none=>none
theorem Di(h:Hp)(s e off tot:Nat):ld1 h (.ptr s e off tot)=VD (fh h s e) off tot:=by
 unfold fh;simp only[ld1];cases aw h s e with
 |none=>rfl
 |vars cs=>rfl
 | data n cs a b=>
  simp only[VD];split
  .cases cs[off]?<;>rfl
  .rfl
theorem xn(h:Hp)(n s e off tot:Nat):ldA h n (.ptr s e off tot)=RZ (fh h s e) n off tot:=by
 unfold fh;simp only[ldA];cases aw h s e with
 |none=>rfl
 | vars cs=>
  simp only[RZ];split
  .cases cut cs off n<;>rfl
  .rfl
 | data m cs a b=>
  simp only[RZ];split
  .cases cut cs off n<;>rfl
  .rfl
@[simp]theorem ahV(h:Hp)(s e off tot:Nat)(k:V->Prop)(u:PU k):rn (bnd (ld1 h (.ptr s e off tot))) k u=rn (bnd (VD (fh h s e) off tot)) k u:=by rw[Di]
@[simp]theorem ahU(h:Hp)(n s e off tot:Nat)(k:V->Prop)(u:PU k):rn (bnd (ldA h n (.ptr s e off tot))) k u=rn (bnd (RZ (fh h s e) n off tot)) k u:=by rw[xn]
@[simp]theorem ae1(cs:LwQ)(off tot:Nat):VD (.vars cs) off tot=if tot=cs.length then cs[off]? else none:=id rfl
@[simp]theorem ae2(n:Nat)(cs:LdQ)(a b:Bool)(off tot:Nat):VD (.data n cs a b) off tot=if tot=cs.length then cs[off]?.map .d else none:=id rfl
@[simp]theorem aeZ(cs:LwQ)(n off tot:Nat):RZ (.vars cs) n off tot=if tot=cs.length then(cut cs off n).map .agg else none:=id rfl
@[simp]theorem ae0(m:Nat)(cs:LdQ)(a b:Bool)(n off tot:Nat):RZ (.data m cs a b) n off tot=if tot=cs.length then(cut cs off n).map (fun l=>.agg (l.map .d))else none:=id rfl
def stX(b:Bk)(h:Hp)(s e off tot:Nat)(vs:LwQ):Option Hp:=match b with
 |.vars cs=>if tot=cs.length∧off+vs.length<=cs.length∧vs.all okV=true then some (bS h s e (.vars (cs.take off++vs++cs.drop (off+vs.length))))else none
 |_=>sto h s e off tot vs
theorem aca(h:Hp)(s e off tot:Nat)(vs:LwQ):sto h s e off tot vs=stX (fh h s e) h s e off tot vs:=by
 unfold fh stX;cases hb:aw h s e with
 |vars cs=>simp[sto,hb]
 |none=>rfl
 |data n cs a b=>rfl
@[simp] theorem ahS (h:Hp)(n s e off tot:Nat)(vs:LwQ)(k:Hp->Prop)(u:PU k):rn (bnh (st h n (.ptr s e off tot) (.agg vs))) k u=rn (bnh (if vs.length=n then stX (fh h s e) h s e off tot vs else none)) k u:=by simp only[rn,st,aca]
def KI(b:Bk)(h:Hp)(s e off tot:Nat)(x:D):Option Hp:=match b with
 |.vars cs=>if tot=cs.length∧off+1<=cs.length then some (bS h s e (.vars (cs.take off++[.d x]++cs.drop (off+1))))else none
 |.data n cs ex fr=>if fr=false∧tot=cs.length∧off+1<=cs.length then some (bS h s e (.data n (cs.set off (norm x)) ex false))else none
 |.none=>none
theorem KH(h:Hp)(s e off tot:Nat)(x:D):st h 1 (.ptr s e off tot) (.d x)=KI (fh h s e) h s e off tot x:=by
 unfold fh;simp only[st,if_true];cases hb:aw h s e with
 |none=>simp[sto,hb,KI]
 |vars cs=>simp[sto,hb,KI,okV]
 | data n cs ex fr=>
  simp only[sto,hb,iH,toD,KI];by_cases hc:fr=false∧tot=cs.length∧off+1<=cs.length
  .rw[if_pos hc,if_pos aa];rw[Ya,if_pos aa];simp
  .rw[if_neg hc,if_neg aa]
@[simp]theorem ahT(h:Hp)(s e off tot:Nat)(x:D)(k:Hp->Prop)(u:PU k):rn (bnh (st h 1 (.ptr s e off tot) (.d x))) k u=rn (bnh (KI (fh h s e) h s e off tot x)) k u:=by rw[KH]
@[simp]theorem aeP(cs:LwQ)(h:Hp)(s e off tot:Nat)(x:D):KI (.vars cs) h s e off tot x=if tot=cs.length∧off+1<=cs.length then some (bS h s e (.vars (cs.take off++[.d x]++cs.drop (off+1))))else none:=id rfl
@[simp] theorem uv (n:Nat)(cs:LdQ)(ex:Bool)(h:Hp)(s e off tot:Nat)(x:D)(ht:tot=cs.length)(ho:off<cs.length):KI (.data n cs ex false) h s e off tot x=some (bS h s e (.data n (cs.set off (norm x)) ex false)):=by simp only[KI];simp[ht];omega
def ixX(b:Bk)(n s e off len tot:Nat)(i:Int):Option V:=match b with
 |.data _ cs _ _=>if tot=cs.length∧0<=i∧i<len then some (.ptr s e (off+i.toNat*n) tot)else none
 |.vars cs=>if tot=cs.length∧0<=i∧i<len then some (.ptr s e (off+i.toNat*n) tot)else none
 |_=>none
@[simp] theorem ahW (h:Hp)(n s e off len cap tot:Nat)(kd:IntKind)(i:Int)(k:V->Prop)(u:PU k):rn (bnd (ixV h n (.ref s e off len cap tot) (.d (.int kd i)))) k u=rn (bnd (ixX (fh h s e) n s e off len tot i)) k u:=by
 have:ixV h n (.ref s e off len cap tot) (.d (.int kd i))=ixX (fh h s e) n s e off len tot i:=by
  unfold fh;simp only[ixV,ixX];cases aw h s e<;>rfl
 rfl
@[simp] theorem af3 (m:Nat)(cs:LdQ)(a b:Bool)(n s e off len tot:Nat)(i:Int)(ht:tot=cs.length)(h0:0<=i)(h1:i<len):ixX (.data m cs a b) n s e off len tot i=some (.ptr s e (off+i.toNat*n) tot):=by simp only[ixX];rw[if_pos ⟨ht,h0,h1⟩]
@[simp] theorem af2 (cs:LwQ)(n s e off len tot:Nat)(i:Int)(ht:tot=cs.length)(h0:0<=i)(h1:i<len):ixX (.vars cs) n s e off len tot i=some (.ptr s e (off+i.toNat*n) tot):=by simp only[ixX];rw[if_pos ⟨ht,h0,h1⟩]
@[simp] theorem ahR (h:Hp)(n s e off tot a b c d f g:Nat)(k:Hp->Prop)(u:PU k):rn (bnh (st h n (.ptr s e off tot) (.ref a b c d f g))) k u=rn (bnh (if n=1 then stX (fh h s e) h s e off tot [.ref a b c d f g]else none)) k u:=by simp only[rn,st,aca]
@[simp]theorem S9(cs:LwQ)(h:Hp)(s e off tot:Nat)(vs:LwQ):stX (.vars cs) h s e off tot vs=if tot=cs.length∧off+vs.length<=cs.length∧vs.all okV=true then some (bS h s e (.vars (cs.take off++vs++cs.drop (off+vs.length))))else none:=id rfl
@[simp]theorem ag4(h:Hp)(s e:Nat)(b:Bk):bS h s e b=h.set s (e,b):=rfl
@[simp]theorem aiG(x:D):okV (.d x)=true:=rfl
@[simp]theorem aay(a b c d e f:Nat):okV (.ref a b c d e f)=true:=rfl
@[simp]theorem aip{α:Type}(l:List α)(off n:Nat):cut l off n=if off+n<=l.length then some ((l.drop off).take n)else none:=id rfl
@[simp]theorem aX(i:Nat)(h0 h:Hp)(hl:h.length=h0.length):au [] i h0 h=h:=Hs i h0 h hl
@[simp]theorem aha(q:LwQ->Hp->Prop)(r:List (Exit×(LwQ->Hp->Prop)))(l:LwQ)(h:Hp):exK ((.normal,q)::r) .normal l h=q l h:=rfl
@[simp]theorem BW(q:LwQ->Hp->Prop)(r:List (Exit×(LwQ->Hp->Prop)))(l:LwQ)(h:Hp):exK ((.normal,q)::r) .ret l h=exK r .ret l h:=rfl
@[simp]theorem acG(q:LwQ->Hp->Prop)(r:List (Exit×(LwQ->Hp->Prop)))(l:LwQ)(h:Hp):exK ((.ret,q)::r) .normal l h=exK r .normal l h:=rfl
@[congr]theorem ae5{l:List Gh}{h:Hp}{k:Hp->Prop}(e:h=h'):ghG l h k=ghG l h' k:=by rw[e]
@[congr]theorem afs{h:Hp}{x:V}{k:Prop}(e:h=h'):sp h x ys k=sp h' x ys k:=by rw[e]
@[congr]theorem afv{h:Hp}{x y:V}{k:Prop}(e:h=h'):sm h x y k=sm h' x y k:=by rw[e]
structure Acc where
 s:Nat
 e:Nat
 n:Nat
 b0:Bk
def Acc.v(a:Acc)(L:Nat)(cells:LdQ):V:=match L with
 |0=>.d nPQ
 |_=>.ref a.s (a.e+1) 0 L L cells.length
def Acc.b(a:Acc)(L:Nat)(cells:LdQ):Nat×Bk:=match L with
 |0=>(a.e,a.b0)
 |_=>(a.e+1,.data a.n cells false false)
theorem hO(a:Acc){L by_ k:Nat}{cells cs:LdQ}{h:Hp}{y:V}{q:kkQ}{u:PU q}(hk:0<k)(hs:h[a.s]?=some (a.b L cells))(hc:cells.length=L*a.n)(hcs:cs.length=k*a.n)
  (hy:cellsOf h y=some (k,cs)) (hyn:∀t,y≠.d (.str t)) (hb:(L+k)*by_<=140737488355328) (hn:0<a.n) (hq:q (a.v (L+k) (cells++cs)) (h.set a.s (a.b (L+k) (cells++cs)))):rh (apV false a.s a.n by_ (a.v L cells) y h) q u:=by
 have e1:apV false a.s a.n by_ (a.v L cells) y h q=apC false a.s a.n by_ (a.v L cells) k cs h q:=by
  unfold apV;split
  .trivial
  .grind
 show apV false a.s a.n by_ (a.v L cells) y h q
 rw[e1];have hlt:=(List.getElem?_eq_some_iff.1 hs).1;obtain⟨m,hm⟩:∃m,L+k=m+1:=⟨L+k-1,aa⟩;cases L with
 | zero=>
  have:cells=[]:=Zf aa;subst this;simp only[Zp,List.nil_append]at *;simp only[Acc.v];unfold apC;rw[if_neg aa];simp only[];rw[if_pos aa]
  simp_all[new,Acc.b,Acc.v]
 | succ L=>
  simp only[Acc.v];unfold apC;rw[if_neg aa];have hg:aw h a.s (a.e+1)=.data a.n cells false false:=by simp only[aw,hs,Acc.b,if_true]
  simp only[hg,true_and,Zp];rw[if_pos ⟨Z7 _,aa,hcs⟩,if_neg aa,if_pos hb];simp only[Ze,if_false,V7];have hpos:0<cs.length:=by rw[hcs];exact Yx hk hn
  rw[if_pos ⟨aa,aa⟩];rw[hm]at hq ⊢;simp only[Acc.v,Acc.b,Zm,bS,hc]at hq ⊢;simp only[Zj];rw[Z6 aa];exact hq
theorem uR(a:Acc){h:Hp}(hs:h[a.s]?=some (a.b L cells))(hc:cells.length=L*a.n):
  ∃h',bJ h (a.v L cells)=some (.d (.sl L cells),h')∧((L=0∧h'=h)∨(0<L∧h'=h.set a.s (a.e+1,.data a.n cells false true))):=by
 cases L with
 | zero=>
  simp_all[Acc.v]
 | succ L=>
  have hg:aw h a.s (a.e+1)=.data a.n cells false false:=by simp only[aw,hs,Acc.b,if_true]
  refine⟨_,?_,.inr ⟨Nat.succ_pos _,rfl⟩⟩;simp only[Acc.v,bJ,toD,hg,true_and,Zp];rw[if_pos ⟨Z7 _,aa⟩];simp only[Zj,bS];rw[Z6 aa]
theorem abY(a:Acc){h:Hp}(hs:h[a.s]?=some (a.b L cells))(hc:cells.length=L*a.n):out (.d (.sl L cells)) (a.v L cells) h:=by obtain⟨h',h1,_⟩:=uR a hs hc;exact⟨h',h1⟩
theorem nN{b:Bool}{h:Hp}(e:b'=b):out (B b) (.d (.bool b')) h:=by simp_all
theorem cx{b:Int}{h:Hp}(e:b=a):out (.d (.int k a)) (.d (.int k b)) h:=by simp_all
theorem cd{h:Hp}{f:FuncId}{v:V}{k:kkQ}{u:PU k}(hc:C f args v)(hk:k v h)(hs:aS h args=some (args,h):=by simp[aS,bJ]):rh (cal C h (.fn f [] []) args) k u:=agp hc hs hk
theorem cdx{h:Hp}{f:FuncId}{v:V}{k:kkQ}{u:PU k}(hs:aS h args=some (ds,h))(hc:C f ds v)(hk:k v h):rh (cal C h (.fn f [] []) args) k u:=
 OQ hs hc (by grind)
theorem lo{st:aL}{l:LwQ}{h:Hp}{k:KL}{u:PU k}(hl:lp st clr h0 l h k):rl (lp st clr h0 l h) k u:=hl
def aaI(n:Nat):D:=.sl (len n) ((dig W n).map u32)
theorem c9(n:Nat):nat n=.d (aaI n):=rfl
@[simp]theorem aeV(n:Nat):norm (aaI n)=aaI n:=rfl
@[simp]theorem afu(h:Hp)(n:Nat):bJ h (nat n)=some (nat n,h):=Ek ..
@[simp]theorem aeX(n:Nat):bj (.d (aaI n))=some (I (len n)):=rfl
def af4(z:Int):LwQ:=[.d (.bool (decide (z<0))),.d (aaI z.natAbs)]
def aeb(z:Int):V:=.agg (af4 z)
@[simp]theorem aeS(h:Hp)(z:Int):bJ h (aeb z)=some (aeb z,h):=by simp[aeb,af4,bJ,aS]
theorem oP:len 0=0:=by simp[len,dig,AO]
theorem oQ{n:Nat}:0<len n↔0<n:=by
 constructor
 .intro h;rcases Zd n with e|e
  .subst e;simp[oP]at h
  .exact e
 .intro h;rcases Zd (len n)with e|e
  .have:n<W^(dig W n).length:=(pN bc).1 (Z7 _);unfold len at e;rw[e]at this;simp at this;omega
  .exact e
theorem nE:aaI 0=.sl 0 []:=by simp[aaI,len,dig,AO]
theorem nI{b:Bool}{n:Nat}(hn:z.natAbs=n)(hb:b=decide (z<0)):aeb z=.agg [.d (.bool b),.d (aaI n)]:=by subst hn;subst hb;rfl
theorem kt{b:Bool}{n:Nat}{h:Hp}(hn:n'=n)(hb:b=b'):out (.agg [.d (.bool b'),.d (aaI n')]) (.agg [.d (.bool b),.d (aaI n)]) h:=by subst hn;subst hb;exact⟨h,by simp[bJ,aS]⟩
theorem BO{a b:Nat}:cmp a b=1↔b<a:=by unfold cmp;split<;>(try split)<;>simp<;>omega
theorem BP{a b:Nat}:cmp a b = -1↔a<b:=by unfold cmp;split<;>(try split)<;>simp<;>omega
theorem jO{a b:Nat}:cmp a b=0↔a=b:=by unfold cmp;split<;>(try split)<;>simp<;>omega
theorem zm{n:Int}(h : -9223372036854775808<=n∧n<0):IntKind.wrap .u64 (IntKind.wrap .i64 (-n))=(n.natAbs:Int):=by have e1:(2:Int)^64=18446744073709551616:=ae;have e2:(2:Int)^(64-1)=9223372036854775808:=ae;simp only[IntKind.wrap,IntKind.bits,IntKind.signed,e1,e2,Zg,V9,decide_eq_true_eq];simp only[Ze,if_false];split<;>omega
theorem jV{n:Int}(h : -9223372036854775808<=n∧n<=9223372036854775807):CP Y F.b9 [I n] (aeb n):=by
 refine px ?_;simp(disch:=try exact ag)[b9];refine XZ (fun hn=>?_) (fun hn=>?_)
 .have e:=zm ⟨h.1,hn⟩;simp(disch:=try exact ag)[e];refine cd (vf aa) ?_;simp(disch:=try exact ag)[c9];exact kt rfl (by simp[hn])
 .have e:IntKind.wrap .u64 n=(n.natAbs:Int):=by rw[wrap_u64 aa];omega
  simp(disch:=try exact ag)[e];refine cd (vf aa) ?_;simp(disch:=try exact ag)[c9];exact kt rfl bK
theorem yl(z:Int):CP Y F.cV [aeb z] (aeb (-z)):=by
 refine lv ?_;simp(disch:=try exact ag)[cV,aeb,af4];have:=oQ (n:=z.natAbs);refine XZ (fun h=>?_) (fun h=>?_)<;>try simp(disch:=try exact ag)[h]
 all_goals exact kt aa bK
def fits(z:Int):Prop:=len z.natAbs<2^40
theorem sK{b:Int}(ha:fits a)(hb:fits b):CP Y F.ba [aeb a,aeb b] (aeb (a+b)):=by
 refine mz ?_;simp(disch:=try exact ag)[ba,aeb,af4];refine XZ (fun h=>?_) (fun h=>?_)<;>try simp(disch:=try exact ag)[h]
 .refine cd (nD ha hb) ?_;simp(disch:=try exact ag)[c9];exact kt aa bK
 .refine cd (iG ha hb) ?_;simp(disch:=try exact ag)[BO];refine XZ (fun h1=>?_) (fun h1=>?_)<;>try simp(disch:=try exact ag)[h1]
  .refine cd (ui aa ha) ?_;simp(disch:=try exact ag)[c9];exact kt aa bK
  .simp(disch:=try exact ag)[BP];refine XZ (fun h2=>?_) (fun h2=>?_)<;>try simp(disch:=try exact ag)[h2]
   .refine cd (ui aa hb) ?_;simp(disch:=try exact ag)[c9];exact kt aa bK
   .have e:a+b=0:=aa;rw[e];exact⟨_,by simp[bJ,aS,nE];rfl⟩
theorem vl{b:Int}:a*b<0↔a≠0∧b≠0∧¬(a<0↔b<0):=by
 rcases Int.lt_trichotomy a 0 with ha|ha|ha<;>rcases Int.lt_trichotomy b 0 with hb|hb|hb
 .have:=Int.mul_pos_of_neg_of_neg ha hb;omega
 .subst hb;simp
 .have:=Int.mul_neg_of_neg_of_pos ha hb;omega
 .subst ha;simp
 .subst ha;simp
 .subst ha;simp
 .have:=Int.mul_neg_of_pos_of_neg ha hb;omega
 .subst hb;simp
 .have:=Int.mul_pos ha hb;omega
theorem mF{b:Int}(ha:fits a)(hb:fits b):CP Y F.a6 [aeb a,aeb b] (aeb (a*b)):=by
 refine lR ?_;simp(disch:=try exact ag)[a6,aeb,af4];refine cd (jU ha hb) ?_;simp(disch:=try exact ag)[c9];have h1:=oQ (n:=a.natAbs*b.natAbs)
 have h2:0<a.natAbs*b.natAbs↔a≠0∧b≠0:=by
  rw[Nat.pos_iff_ne_zero];simp[Nat.mul_eq_zero]
 have h3:=vl (a:=a) (b:=b);refine XZ (fun h=>?_) (fun h=>?_)<;>try simp(disch:=try exact ag)[h]
 all_goals
  refine kt (Y2 a b) ?_;rw[Xz];by_cases ha0:a<0<;>by_cases hb0:b<0<;>simp[h3,ha0,hb0]<;>omega
theorem vM{b:Int}(ha:fits a)(hb:fits b):CP Y F.co [aeb a,aeb b] (B (decide (a=b))):=by
 refine lS ?_;simp(disch:=try exact ag)[co,aeb,af4];refine XZ (fun h=>?_) (fun h=>?_)<;>try simp(disch:=try exact ag)[h]
 .refine cd (iG ha hb) ?_;simp(disch:=try exact ag)[h,jO];have:decide (a=b)=decide (a.natAbs=b.natAbs):=by simp;omega
  rw[this];exact UF ..
 .have:decide (a=b)=false:=by simp;omega
  rw[this];exact UF ..
def di(n:Int):D:=.int .i64 n
def row(l:LiQ):D:=.sl l.length (l.map di)
abbrev mat(m:LLQ):V:=lst row m
@[simp]theorem aiR(n:Int):V.d (di n)=I n:=id rfl
@[simp]theorem agX(n:Int):norm (di n)=di n:=rfl
@[simp]theorem afM(l:LiQ):norm (row l)=row l:=rfl
@[simp]theorem aif(l:LiQ)(h:Hp)(h0:0<=i)(h1:i<l.length):ixV h 1 (.d (row l)) (.d (.int k i))=some (.dptr (l.map di) i.toNat):=kv di l h h0 h1
@[simp]theorem ad6(l:LiQ)(h:Hp)(hl:j<l.length):ld1 h (.dptr (l.map di) j)=some (.d (di (nth 0 l j))):=aC di 0 l h hl
@[simp]theorem ag3(m:LLQ)(h:Hp)(hl:j<m.length):ld1 h (.dptr (m.map row) j)=some (.d (row (nth [] m j))):=aC row [] m h hl
theorem rP{α:Type}(d:α)(l:List α):nth d l 0=l.headD d:=by cases l<;>rfl
@[simp]theorem afT(l:LiQ):bj (.d (row l))=some (I l.length):=rfl
def idx{α:Type}(p:α->Bool)(l:List α):Int:=match l.findIdx? p with
 |some i=>i
 |none=>-1
theorem cdf{h:Hp}{f:FuncId}{fs cs:LwQ}{v:V}{k:kkQ}{u:PU k}(hc:C f (fs++args++cs) v)(hs:aS h (fs++args++cs)=some (fs++args++cs,h))(hk:k v h):rh (cal C h (.fn f fs cs) args) k u:=by simp only[rh,cal,hs];exact⟨v,hc,by simpa using hk⟩
variable{α:Type}{f:α->D}{g:FuncId}{fs cs:LwQ}{p:α->Bool}
theorem Ma(hs:∀x,aS [] (fs++[.d (f x)]++cs)=some (fs++[.d (f x)]++cs,[]))(k:KL):∀(q a:List α),(a++q).length<4611686018427387904->(∀x∈q,CP Y g (fs++[.d (f x)]++cs) (B (p x))) ->
  (idx p q = -1->k (.exit 0) [] [])->(∀i:Nat,idx p q=i->k .ret [I (a.length+i:Nat)] []) ->
  lp (dV (CX Y) (lst f (a++q)) (.fn g fs cs) (I (a++q).length)) [] [] [I a.length] [] k
 | [],a,hN,_,h0,_=>by
  refine aj ?_;simp[dV];exact h0 rfl
 | x::q,a,hN,hp,h0,h1=>by
  simp at hN;refine aj ?_;simp(disch:=try exact ag)[dV];refine cdf (hp x af) (hs x) ?_;simp;refine XZ (fun h=>?_) (fun h=>?_)<;>try simp(disch:=try exact ag)[h]
  .have e:idx p (x::q)=(0:Nat):=by simp[idx,List.findIdx?_cons,h]
   simpa using h1 0 e
  .have hl:=hs;have:=Ma hs k q (a++[x]) bK (fun y hy=>hp y (by simp[hy])) (fun e=>h0 ?_) (fun i e=>?_)
   .simpa[Int.add_assoc]using this
   .simp only[idx,List.findIdx?_cons,h,Ze,if_false]at e ⊢;cases hq:List.findIdx? p q<;>simp[hq]at e ⊢
   .have:=h1 (i+1) ?_
    .simpa[Nat.add_assoc,Xd 1 i]using this
    .simp only[idx,List.findIdx?_cons,h,Ze,if_false]at e ⊢;cases hq:List.findIdx? p q<;>simp[hq]at e ⊢
     exact e
theorem aa0(l:List α)(hN:l.length<4611686018427387904)(hs:∀x,aS [] (fs++[.d (f x)]++cs)=some (fs++[.d (f x)]++cs,[]))(hp:∀x∈l,CP Y g (fs++[.d (f x)]++cs) (B (p x))):
  bD (CX Y) (lst f l) (.fn g fs cs) (out (I (idx p l))):=by
 simp[bD];refine lo (Ma hs _ l [] (by simpa using hN) hp (fun e=>?_) (fun i e=>?_))
 .simp[e]
 .simp[e]
theorem Ju{α:Type}(p:α->Bool)(l:List α):0<=idx p l↔l.any p=true:=by
 unfold idx;cases h:l.findIdx? p with
 |none=>simp[List.findIdx?_eq_none_iff]at h ⊢;exact h
 | some i=>
  simp[List.findIdx?_eq_some_iff_getElem]at h ⊢;obtain⟨hi,h1,_⟩:=h;exact⟨l[i],Wj hi,h1⟩
@[simp]theorem agI(h:Hp)(g:FuncId):bJ h (.fn g [] [])=some (.fn g [] [],h):=by simp[bJ,aS]
theorem L8{g:FuncId}{p:Int->Bool}(l:LiQ)(hN:l.length<4611686018427387904)(hp:∀x∈l,CP Y g [I x] (B (p x))):CP Y F.bD [lst di l,.fn g [] []] (I (idx p l)):=
 qh (aa0 l hN (fun x=>by simp[aS]) hp)
theorem xw{g:FuncId}{p:Int->Bool}(l:LiQ)(hN:l.length<4611686018427387904)(hp:∀x∈l,CP Y g [I x] (B (p x))):CP Y F.aZ [lst di l,.fn g [] []] (B (l.any p)):=by
 refine pk ?_;simp[aZ];refine cd (L8 l hN hp) ?_;simp;have:=Ju p l;have e:decide (0<=idx p l)=l.any p:=by rw[Xz];simpa using this
 rw[e];exact UF ..
def tO(n:Int):Bool:=decide (-1000000000<=n∧n<=1000000000)
def dN(r:LiQ):Bool:=r.all tO
def jR(m:LLQ):Bool:=decide (m.length<=12)&&m.all fun r=>decide (r.length=(m.headD []).length)&&decide (r.length<=12)&&dN r
theorem zL(n:Int):CP Y F.fC [I n] (B (!tO n)):=by
 refine o8 ?_;simp(disch:=try exact ag)[fC];refine XZ (fun h=>?_) (fun h=>?_)<;>try simp(disch:=try exact ag)[h]
 all_goals exact nN (by rw[Xz];simp[tO];omega)
theorem xM(r:LiQ)(hr:r.length<4611686018427387904):CP Y F.fM [lst di r] (B (dN r)):=by
 refine si ?_;simp(disch:=try exact ag)[fM];refine cd (xw r hr fun n _=>zL n) ?_;simp(disch:=try exact ag);have e:dN r = !(r.any fun n=>!tO n):=by simp[dN,List.not_any_eq_all_not]
 rw[e];exact UF ..
theorem qa(m0:LiQ)(M:LLQ)(k:KL):∀(q a:LLQ),(a++q).length<4611686018427387904->(∀r∈q,r.length<4611686018427387904)->m0.length<4611686018427387904 ->
  ((q.all fun r=>decide (r.length=m0.length)&&decide (r.length<=12)&&dN r)=true->k (.exit 0) [] []) ->
  ((q.all fun r=>decide (r.length=m0.length)&&decide (r.length<=12)&&dN r)=false->k .ret [B false] []) ->
  lp (fP (CX Y) (lst row (m0::M)) (lst row (a++q)) (I (a++q).length)) [] [] [I a.length] [] k
 | [],a,hN,_,_,h0,_=>by
  refine aj ?_;simp(disch:=try exact ag)[fP];exact h0 rfl
 | r::q,a,hN,hr,hm,h0,h1=>by
  simp at hN hr;refine aj ?_;simp(disch:=try exact ag)[fP];refine XZ (fun h=>?_) (fun h=>?_)<;>try simp(disch:=try exact ag)[h]
  .refine XZ (fun h2=>?_) (fun h2=>?_)<;>try simp(disch:=try exact ag)[h2]
   .refine cd (xM r hr.1) ?_;simp(disch:=try exact ag)[h];by_cases h3:dN r=true<;>simp(disch:=try exact ag)[h3]
    .have:=qa m0 M k q (a++[r]) bK hr.2 hm (fun e=>h0 ?_) (fun e=>h1 ?_)
     .simpa using this
     .have g1:r.length=m0.length:=aa;have g2:r.length<=12:=aa;simpa[g1,h3,g1▸g2]using e
     .have g1:r.length=m0.length:=aa;have g2:r.length<=12:=aa;simpa[g1,h3,g1▸g2]using e
    .exact h1 (by simp[h3])
   .have g2:¬r.length<=12:=aa;exact h1 (by simp[g2])
  .have g1:¬r.length=m0.length:=aa;exact h1 (by simp[g1])
theorem tC(m:LLQ)(hm:m.length<4611686018427387904)(hr:∀r∈m,r.length<4611686018427387904):CP Y F.fo [mat m] (B (jR m)):=by
 refine py ?_;simp(disch:=try exact ag)[fo,mat];refine XZ (fun h=>?_) (fun h=>?_)<;>try simp(disch:=try exact ag)[h]
 .have g:¬m.length<=12:=aa;exact nN (by simp[jR,g])
 .have g:m.length<=12:=aa;cases m with
  | nil=>
   refine lo (aj ?_);simp(disch:=try exact ag)[fP];exact nN rfl
  | cons m0 M=>
   have e0:jR (m0::M)=(decide ((m0::M).length<=12)&&(m0::M).all fun r=>decide (r.length=m0.length)&&decide (r.length<=12)&&dN r):=rfl;refine lo (qa m0 M _ (m0::M) [] hm hr (hr _ af) (fun e=>?_) (fun e=>?_))
   .simp only[iP];exact nN (by rw[e0,e];simpa using g)
   .simp only[AL,DL];exact nN (by rw[e0,e,Wa])
def kI:LiQ->LiQ->Int
 |a::l,b::m=>a*b+kI l m
 |_,_=>0
theorem Bz{k:Nat}(hk:k<2^40)(h:z.natAbs<W^k):fits z:=Zk (jy h) hk
theorem fV(h1 : -1000000000000000000000000<=z)(h2:z<=1000000000000000000000000):fits z:=Bz (k:=3) ae (by grind[W])
theorem BD{n:Int}:tO n=true↔-1000000000<=n∧n<=1000000000:=by simp[tO]
theorem xR{b:Int}(ha:tO a=true)(hb:tO b=true): -1000000000000000000<=a*b∧a*b<=1000000000000000000:=by
 rw[BD]at ha hb;have h1:=Zn (show a.natAbs<=1000000000 by omega) (show b.natAbs<=1000000000 by omega)
 grind[Nat.reduceMul]
theorem wu(k:KL)(b0:Nat×Bk)(h0:Hp)(hh:h0.length=2):∀(q:LiQ), ∀(r a b:LiQ)(s:Int)(n:Bool)(d:D),(a++q).length<=1000->a.length=b.length->q.length<=r.length->(∀n∈q,tO n=true)->(∀n∈r,tO n=true) ->
    (-(a.length*1000000000000000000:Int)<=s∧s<=a.length*1000000000000000000)->n=decide (s<0)->norm d=aaI s.natAbs ->
    (∀n d,n=decide (s+kI q r<0)->norm d=aaI (s+kI q r).natAbs->k (.exit 0) [] [b0,(1, .vars [.d (.bool n), .d d])]) ->
    lp (jP (CX Y) (lst di (b++r)) (.ptr 1 1 0 2) (lst di (a++q)) (I (a++q).length)) [] h0 [I a.length] [b0,(1, .vars [.d (.bool n), .d d])] k
  | []=>by
    intro r a b s n d hN hl hr _ _ hs hn hd hk;refine aj ?_;simp(disch:=first|omega|(simp<;>omega)|fail) [jP];exact hk n d (by simp[hn,kI]) (by simp[hd,kI])
  | x::q=>by
    intro r a b s n d hN hl hr hx hy hs hn hd hk;cases r with
    |nil=>simp at hr
    |cons y r=>
    simp at hN hl hr hx hy;refine aj ?_;simp(disch:=first|omega|(simp<;>omega)|fail) [jP];have hx1:=BD.1 hx.1;have hy1:=BD.1 hy.1;have hm:=xR hx.1 hy.1;refine cd (jV aa) ?_;simp(disch:=first|omega|(simp<;>omega)|fail) [hl];refine cd (jV aa) ?_;simp(disch:=first|omega|(simp<;>omega)|fail) []
    refine cd (mF (fV aa aa) (fV aa aa)) ?_;simp(disch:=first|omega|(simp<;>omega)|fail) [];refine cdx (ds:=[aeb s,aeb (x*y)]) (by simp[aS,bJ,hd,hn,aeb,af4]) (sK (a:=s) (fV aa aa) (fV aa aa)) ?_
    simp(disch:=first|omega|(simp<;>omega)|fail) [aeb,af4]
    have:=wu k b0 h0 hh q r (a ++ [x]) (b ++ [y]) (s+x*y) _ (aaI (s+x*y).natAbs) bK (by simp[hl]) hr hx.2 hy.2 bK rfl rfl
      (by have e:s+kI (x::q) (y::r)=s+x*y+kI q r:=by simp[kI,Int.add_assoc]
          rw[e]at hk;exact hk)
    simpa[hl,hh]using this
theorem Aa{a b:LiQ}(hN:a.length<=1000)(hl:a.length<=b.length)(ha:dN a=true)(hb:dN b=true):CP Y F.ik [lst di a,lst di b] (aeb (kI a b)):=by simp only[dN,Zv]at ha hb;refine sU ?_;simp(disch:=try exact ag)[ik];refine lo (wu _ _ _ rfl a b [] [] 0 _ _ (by simpa using hN) rfl hl ha hb af af (by simp[nE]) fun n d hn hd=>?_);simp(disch:=try exact ag);exact⟨_,by simp[bJ,aS,aeb,af4]at hn hd ⊢;exact⟨⟨hn,hd⟩,rfl⟩⟩
def nu(c:Nat)(m:LLQ):LiQ:=m.map fun r=>nth 0 r c
theorem qi(c:Nat)(e:Nat)(b0:Bk)(h0:Hp)(hh:h0.length=1)(k:KL):∀(q:LLQ),∀(a:LLQ)(done:LiQ),(a++q).length<=1000->(∀r∈q,c<r.length)->done.length=a.length ->
  (k (.exit 0) [Acc.v ⟨0,e,1,b0⟩ (a++q).length ((done++nu c q).map di)] [Acc.b ⟨0,e,1,b0⟩ (a++q).length ((done++nu c q).map di)]) ->
  lp (gW (CX Y) (I c) (lst row (a++q)) (I (a++q).length)) [] h0 [Acc.v ⟨0,e,1,b0⟩ a.length (done.map di),I a.length] [Acc.b ⟨0,e,1,b0⟩ a.length (done.map di)] k
 | []=>by
  intro a done hN hc hd hk;refine aj ?_;simp(disch:=try exact ag)[gW];simpa[nu]using hk
 | r::q=>by
  intro a done hN hc hd hk;simp at hN hc;refine aj ?_;simp(disch:=try exact ag)[gW];simp only[cO,jv];simp(disch:=try exact ag)[iH,toD];refine hO ⟨0,e,1,b0⟩ (k:=1) (cs:=[di (nth 0 r c)]) aa af (by simp[hd]) af rfl af aa af ?_;simp(disch:=try exact ag)
  have:=qi c e b0 h0 hh k q (a++[r]) (done++[nth 0 r c]) bK hc.2 (by simp[hd]) (by simpa[nu]using hk);simpa[hh]using this
theorem yZ(hN:m.length<=1000)(hc:∀r∈m,c<r.length):CP Y F.gn [mat m,I c] (lst di (nu c m)):=by refine pI ?_;simp(disch:=try exact ag)[gn,mat];refine lo (qi c 0 .none _ rfl _ m [] [] hN hc rfl ?_);simp(disch:=try exact ag);have:=abY ⟨0,0,1,.none⟩ (L:=m.length) (cells:=(nu c m).map di) (h:=[Acc.b ⟨0,0,1,.none⟩ m.length ((nu c m).map di)]) rfl (by simp[nu]);simpa[lst,nu]using this
def tZ(m:LLQ)(k x:LiQ):Bool:=jR m&&decide (k.length=m.length)&&(decide (m.length=0)||decide (x.length=(m.headD []).length))&&dN k&&dN x&&(x.zipIdx.all fun e=>decide (kI k (nu e.2 m)=e.1))
theorem kf(hm:jR m=true)(r:LiQ)(hr:r∈m):r.length=(m.headD []).length∧r.length<=12∧dN r=true:=by grind[jR]
theorem zG(hm:jR m=true)(h0:0<m.length):(m.headD []).length<=12:=by
 cases m with
 |nil=>simp at h0
 |cons r m=>exact(kf hm r af).2.1
theorem aQ{α:Type}{d:α}{l:List α}{i:Nat}(h:i<l.length):nth d l i∈l:=by grind[aN]
theorem Aj(hm:jR m=true)(hc:∀r∈m,c<r.length):dN (nu c m)=true:=by grind[jR,dN,nu,aQ]
theorem uz:∀(k l:LiQ),k.length<=1000->dN k=true->dN l=true->-(k.length*1000000000000000000:Int)<=kI k l∧kI k l<=k.length*1000000000000000000
 |[],_,_,_,_=>by simp[kI]
 |a::k,[],_,_,_=>by grind[kI]
 | a::k,b::l,hN,ha,hb=>by
  simp[dN]at ha hb hN;have:=uz k l aa (by grind[dN]) (by grind[dN]);have:=xR ha.1 hb.1
  grind[kI]
theorem nh(m:LLQ)(ks:LiQ)(hm:jR m=true)(hk:dN ks=true)(hkm:ks.length=m.length)(k:KL):∀(q:LiQ),∀(a:LiQ),(∀r∈m,(a++q).length=r.length)->(a++q).length<=1000000->dN q=true ->
  ((q.zipIdx a.length).all (fun e=>decide (kI ks (nu e.2 m)=e.1))=true->k (.exit 0) [] []) ->
  ((q.zipIdx a.length).all (fun e=>decide (kI ks (nu e.2 m)=e.1))=false->k .ret [B false] []) ->
  lp (ia (CX Y) (mat m) (lst di ks) (lst di (a++q)) (I (a++q).length)) [] [] [I a.length] [] k
 | []=>by
  intro a hr hN hq h0 h1;refine aj ?_;simp(disch:=try exact ag)[ia];exact h0 rfl
 | x::q=>by
  intro a hr hN hq h0 h1;simp at hN;simp only[dN,List.all_cons,Z8]at hq;have hl:m.length<=12:=by simp[jR]at hm;exact hm.1
  have hc:∀r∈m,a.length<r.length:=fun r hm=>by have:=hr r hm;simp at this;omega
  have hx:=BD.1 hq.1;have hd:=uz ks (nu a.length m) aa hk (Aj hm hc);refine aj ?_;simp(disch:=try exact ag)[ia];refine cd (yZ aa hc) ?_ (by simp[aS,mat]);simp(disch:=try exact ag);refine cd (Aa aa (by simp[nu,hkm]) hk (Aj hm hc)) ?_;simp(disch:=try exact ag)
  refine cd (jV aa) ?_;simp(disch:=try exact ag);refine cd (vM (fV aa aa) (fV aa aa)) ?_;simp(disch:=try exact ag);refine XZ (fun h=>?_) (fun h=>?_)<;>try simp(disch:=try exact ag)[h]
  .exact h1 (by simp[h])
  .have e:kI ks (nu a.length m)=x:=by simpa using h
   have:=nh m ks hm hk hkm k q (a++[x]) (by simpa using hr) bK hq.2 (fun g=>h0 ?_) (fun g=>h1 ?_)
   .simpa using this
   .simpa[e]using g
   .simpa[e]using g
theorem yJ{ks x:LiQ}(hxl:x.length<=1000000)(hN:m.length<4611686018427387904)(hr:∀r∈m,r.length<4611686018427387904)(hk:ks.length<4611686018427387904)(hx:x.length<4611686018427387904):
  CP Y F.gy [mat m,lst di ks,lst di x] (B (tZ m ks x)):=by
 refine pL ?_;simp(disch:=try exact ag)[gy];refine cd (tC m hN hr) ?_ (by simp[aS,mat]);simp(disch:=try exact ag)
 repeat' (first|(refine XZ (fun h=>?_) (fun h=>?_)<;>try simp(disch:=try exact ag)[*])|(refine cd (xM _ (by assumption)) ?_;simp(disch:=try exact ag)[*]))
 all_goals try simp only[rP]at *
 all_goals first
  |(refine nN ?_;simp[tZ, *];done)
  |(refine nN ?_;simp[tZ, *];omega)
  |skip
 .rename_i hm hkm h0 hk1 hx1;rw[<-h];refine lo (nh m ks hm hk1 hkm _ x [] (fun r hr=>?_) ?_ (by simpa using hx1) (fun g=>?_) (fun g=>?_))
  .have:=(kf hm r hr).1;simp;omega
  .simp;simp[jR]at hm;have:=zG (m:=m) (by simpa[jR]using hm) h0;omega
  .refine nN ?_;simp[tZ, *]at g ⊢;exact g
  .refine nN ?_;simp only[tZ,List.length_nil]at g ⊢;rw[g,Wa]
 .rename_i hm hkm h0;refine nN ?_;have h1:¬m.length=0:=aa;simp only[tZ,h,h1];simp
 .rename_i hm hkm h0 hk1;have hx1:=h;have e:m=[]:=Zf aa;subst e;refine lo (nh [] ks hm hk1 hkm _ x [] (fun r hr=>by cases hr) ?_ (by simpa using hx1) (fun g=>?_) (fun g=>?_))
  .simpa using hxl
  .refine nN ?_;simp[tZ, *]at g ⊢;exact g
  .refine nN ?_;simp only[tZ,List.length_nil]at g ⊢;rw[g,Wa]
def piv(r:LiQ):Int:=idx (fun n=>n !=0) r
theorem yA(n:Int):CP Y F.fk [I n] (B (n !=0)):=by refine oE ?_;simp(disch:=try exact ag)[fk];exact nN (by rw[Xz];simp)
theorem zF{r:LiQ}(hr:r.length<4611686018427387904):CP Y F.gJ [lst di r] (I (piv r)):=by refine qD ?_;simp(disch:=try exact ag)[gJ];refine cd (L8 r hr fun n _=>yA n) ?_;exact cx rfl
theorem Cj(r:LiQ): -1<=piv r∧piv r<r.length:=by
 unfold piv idx;cases h:r.findIdx? (fun n=>n !=0)with
 |none=>simp;omega
 |some i=>have:=(List.findIdx?_eq_some_iff_getElem.1 h).1;simp;omega
def uN(p:Nat)(r:LiQ)(done:LLQ):Bool:=done.all fun o=>!(decide (nth 0 o p<0)||decide (nth 0 r p<=nth 0 o p))
def rU:Int->LLQ->LLQ->Bool
 |_,_,[]=>true
 |before,done,r::q=>if piv r<=before∨nth 0 r (piv r).toNat<=0 then false else if uN (piv r).toNat r done=true then rU (piv r) (done++[r]) q else false
theorem xy(p:Nat)(r:LiQ)(hp:p<r.length)(k:KL):∀(q:LLQ),∀a:LLQ,(a++q).length<=1000->(∀o∈q,p<o.length) ->
  (uN p r q=true->k (.exit 2) [] [])->(uN p r q=false->k .ret [B false] []) ->
  lp (jq (CX Y) (lst di r) (I p) (lst row (a++q)) (I (a++q).length)) [] [] [I a.length] [] k
 | []=>by
  intro a hN hq h0 h1;refine aj ?_;simp(disch:=try exact ag)[jq];exact h0 rfl
 | o::q=>by
  intro a hN hq h0 h1;simp at hN hq;refine aj ?_;simp(disch:=try exact ag)[jq];refine XZ (fun h=>?_) (fun h=>?_)<;>try simp(disch:=try exact ag)[h]
  .refine XZ (fun h2=>?_) (fun h2=>?_)<;>try simp(disch:=try exact ag)[h2]
   .exact h1 (by simp[uN,h2])
   .have:=xy p r hp k q (a++[o]) bK hq.2 (fun g=>h0 ?_) (fun g=>h1 ?_)
    .simpa using this
    .simp[uN]at g ⊢;exact⟨⟨aa,aa⟩,g⟩
    .simp only[uN,List.all_cons,Xa];right;simpa[uN]using g
  .exact h1 (by simp[uN];omega)
theorem tI(k:KL):∀(q:LLQ),∀(a:LLQ)(before:Int),-1<=before->(a++q).length<=1000->(∀r∈a++q,∀s∈a++q,r.length=s.length)->(∀r∈q,r.length<1000) ->
  (rU before a q=true->k (.exit 0) [] [])->(rU before a q=false->k .ret [B false] []) ->
  lp (jr (CX Y) (lst row (a++q)) (lst row (a++q)) (I (a++q).length)) [] [] [I before,I a.length] [] k
 | []=>by
  intro a before hb hN hl hs h0 h1;refine aj ?_;simp(disch:=try exact ag)[jr];exact h0 rfl
 | r::q=>by
  intro a before hb hN hl hs h0 h1;simp at hN hs;have hp:=Cj r;refine aj ?_;simp(disch:=try exact ag)[jr];refine cd (zF (r:=r) aa) ?_;simp only[rU]at h0 h1;by_cases hb1:piv r<=before
  .simp(disch:=try exact ag)[hb1];exact h1 (by simp[hb1])
  .obtain⟨p,hpp⟩:∃p:Nat,piv r=p:=⟨(piv r).toNat,aa⟩;have hpr:p<r.length:=aa;rw[hpp]at h0 h1 hb1 ⊢;by_cases h:nth 0 r p<=0
   .simp(disch:=try exact ag)[hb1,h];exact h1 (by simp[h])
   .simp(disch:=try exact ag)[hb1,h];refine lo (xy p r hpr _ a [] bK (fun o ho=>?_) (fun g=>?_) (fun g=>?_))
    .have:=hl r af o (by simp[ho]);omega
    .simp(disch:=try exact ag);have:=tI k q (a++[r]) p aa bK (by simpa using hl) hs.2 (fun e=>h0 ?_) (fun e=>h1 ?_)
     .simpa using this
     .simp[hb1,g,h];exact e
     .simp[g];intro _ _;exact e
    .simp(disch:=try exact ag);exact h1 (by simp[g])
def qb(m:LLQ):Bool:=jR m&&rU (-1) [] m
theorem Bv(hN:m.length<4611686018427387904)(hr:∀r∈m,r.length<4611686018427387904):CP Y F.ix [mat m] (B (qb m)):=by
 refine sF ?_;simp(disch:=try exact ag)[ix];refine cd (tC m hN hr) ?_;by_cases h:jR m=true
 .simp(disch:=try exact ag)[h];have hl:m.length<=12:=by simp only[jR,Z8,decide_eq_true_eq]at h;exact h.1
  refine lo (tI _ m [] (-1) aa bK (fun r hr s hs=>?_) (fun r hr=>?_) (fun g=>?_) (fun g=>?_))
  .rw[(kf h r hr).1,(kf h s hs).1]
  .have:=(kf h r hr).2.1;omega
  .simp(disch:=try exact ag);exact nN (by simp[qb,h,g])
  .simp(disch:=try exact ag);exact nN (by simp[qb,h,g])
 .simp(disch:=try exact ag)[h];exact nN (by simp[qb,h])
def Z:Nat:=1000000000
theorem ax:2<=Z:=ae
theorem bB:0<Z:=ae
def i9(n:Nat):D:=.int .i64 n
def et(n:Nat):V:=lst i9 (dig Z n)
def aic(n:Nat):Nat:=(dig Z n).length
theorem Bn{n k:Nat}(h:n<Z^k):aic n<=k:=(pN ax).2 h
theorem sT(a b:LnQ)(hab:a.length=b.length)(hs:a.length<2^40)(k:KL):∀i:Nat,i<=a.length->(N5 a b i=0->k (.exit 0) [] [])->(N5 a b i≠0->k .ret [I (N5 a b i)] []) ->
  lp (fx (CX Y) (lst i9 a) (lst i9 b)) [] [] [I ((i:Int)-1)] [] k
 | 0,_,h0,_=>by
  refine aj ?_;simp[fx];exact h0 rfl
 | i+1,hi,h0,h1=>by
  refine aj ?_;have ha:i<a.length:=aa;have hb:i<b.length:=aa;have h40:(2:Nat)^40=1099511627776:=ae;have e1:((i+1:Nat):Int)-1=i:=aa;simp only[fx,e1,DJ,aho,AW,fL];rw[if_pos aa];simp only[aJ i9 a [] rfl ha,aJ i9 b [] rfl hb,ad7 i9 _ [] ha,ad7 i9 _ [] hb,AW,i9,ahl,ahn,fL,Int.ofNat_lt]
  have ea:a.getD i 0=a[i]:=by simp[ha]
  have eb:b.getD i 0=b[i]:=by simp[hb]
  simp only[N5,ea,eb]at h0 h1;split
  .rename_i hlt;rw[if_pos hlt]at h1;exact h1 ae
  .rename_i hlt;rw[if_neg hlt]at h0 h1;split
   .rename_i hgt;rw[if_pos hgt]at h1;exact h1 ae
   .rename_i hgt;rw[if_neg hgt]at h0 h1;rw[rE aa];simp only[AW,ad3,clean_nil,true_and];exact sT a b hab hs k i aa h0 h1
theorem AN{a b:Nat}(ha:aic a<2^40)(hb:aic b<2^40):CP Y F.cK [et a,et b] (I (cmp a b)):=by
 have h40:(2:Nat)^40=1099511627776:=ae;refine mN ?_;simp only[cK,List.replicate,et,afV,AW,ahk,fL,ahl];by_cases hl:(dig Z a).length=(dig Z b).length
 .rw[if_neg aa];rw[rE (by unfold aic at ha;omega)];simp only[AW];have ho:=PV bB (cJ ax a) (cJ ax b) (dig Z a).length (Z7 _) aa;rw[Wq,hl,Wq,iS ax,iS ax,<-hl]at ho;refine sT (dig Z a) (dig Z b) hl ha _ _ (Z7 _) (fun h0=>?_) (fun h0=>?_)
  .simp only[iP];rw[<-ho,h0];exact agU ..
  .simp only[AL,DL,DJ];rw[<-ho];exact agU ..
 .rw[if_pos aa];split
  .rename_i h;have:=JL ax (m:=a) (n:=b) aa;rw[show cmp a b = -1 by simp[cmp,this]];exact agU ..
  .rename_i h;have:=JL ax (m:=b) (n:=a) aa;rw[show cmp a b=1 by unfold cmp;rw[if_neg aa,if_pos this]];exact agU ..
theorem ww{n:Nat}(h:0<n):dig Z n=n%Z::dig Z (n/Z):=by
 refine LD bB (cJ ax n) ?_ (FD ax n) ?_ ?_
 .intro x hx;simp only[Zo]at hx;rcases hx with rfl|hx
  .exact Y7 _ bB
  .exact cJ ax _ x hx
 .intro hne;by_cases hz:n/Z=0
  .have hm:n%Z=n:=Yk (by(have:=Nat.div_eq_zero_iff (a:=n) (b:=Z));grind[Z])
   grind[j4]
  .have hne2:dig Z (n/Z)≠[]:=fun e=>hz ((kJ ax).1 e)
   rw[Wo hne2];exact FD ax _ hne2
 simp[iS,val.eq_2,Xk,Z]
def ac1:Acc:=⟨0,0,1,.none⟩
def acH(d:LnQ):Hp:=[ac1.b d.length (d.map i9)]
def acV(d:LnQ):V:=ac1.v d.length (d.map i9)
theorem AM{d:LnQ}{x:Nat}{q:kkQ}{u:PU q}(hb:d.length<1000000000000)(hq:q (acV (d++[x])) (acH (d++[x]))):rh (apV false 0 1 8 (acV d) (.d (.sl 1 [i9 x])) (acH d)) q u:=by
 refine hO ac1 (k:=1) (cs:=[i9 x]) aa (by rfl) (by simp[ac1]) (by rfl) rfl af aa (by simp[ac1]) ?_
 grind[acV,acH,ac1]
theorem wZ{a b:LnQ}(ha:aH Z a)(hb:aH Z b)(hla:a.length<1000000000)(hlb:b.length<1000000000){c i:Nat}(hc:c<=1)(hi:i<1000000002){d:LnQ}(hd:d.length=i)(q:Exit->LwQ->Hp->Prop)
  (hcase:i<a.length∨(¬i<a.length∧i<b.length)∨(¬i<a.length∧¬i<b.length∧0<c))
  (hq:q .normal [I ((c+a.getD i 0+b.getD i 0)/Z:Nat),acV (d++[(c+a.getD i 0+b.getD i 0)%Z]),I (i+1:Nat)] (acH (d++[(c+a.getD i 0+b.getD i 0)%Z]))) :
  cE (CX Y) (lst i9 a) (lst i9 b) [I c,acV d,I i] (acH d) q:=by
 have hxa:=ha.getD bB i;have hxb:=hb.getD bB i;simp only[Z]at hxa hxb hq;have hx0:¬i<a.length->a.getD i 0=0:=fun h=>by rw[Zy,List.getElem?_eq_none aa];rfl
 have hy0:¬i<b.length->b.getD i 0=0:=fun h=>by rw[Zy,List.getElem?_eq_none aa];rfl
 have nx:nth 0 a i=a.getD i 0:=rfl;have ny:nth 0 b i=b.getD i 0:=rfl;generalize a.getD i 0=x at *;generalize b.getD i 0=y at *
 have main:∀t:Bool,t=decide ((i:Int)<(a.length:Int))->jn (fun l13 h=>
   bnd (bj (lst i9 b)) fun v15=>
   bnd (biI .lss (I i) v15) fun v16=>
   jn (fun l17 h=>
    bnd (biI .rem (ge l17 0) (.d (.int .i64 1000000000))) fun v19=>
    cR 1 [.int .i64 0] [(0,v19)] h fun v20 h=>
    apV false 0 1 8 (acV d) v20 h fun v21 h=>
    bnd (biI .quo (ge l17 0) (.d (.int .i64 1000000000))) fun v22=>
    bnd (biI .add (I i) (.d (.int .i64 1))) fun v23=>
    q .normal [v22,v21,v23] h) fun q18=>
    cnd v16 (
     bnd (ixV h 1 (lst i9 b) (I i)) fun v24=>
     bnd (ld1 h v24) fun v25=>
     bnd (biI .add (ge l13 0) v25) fun v26=>
     q18 [v26] h) (
     q18 [(ge l13 0)] h)) fun q14=>
   cnd (.d (.bool t)) (
    bnd (ixV (acH d) 1 (lst i9 a) (I i)) fun v27=>
    bnd (ld1 (acH d) v27) fun v28=>
    bnd (biI .add (I c) v28) fun v29=>
    q14 [v29] (acH d)) (
    q14 [I c] (acH d)):=by
  intro t ht;subst ht;simp(disch:=try exact ag);refine jD (l:=[I (c+x:Nat)]) (h:=acH d) (fun q=>?_) ?_
  .by_cases h:i<a.length
   .simp(disch:=try exact ag)[h];rw[aC i9 0 a _ h,nx];simp(disch:=try exact ag)[i9]
   .have:=hx0 h;subst this;simp(disch:=try exact ag)[h]
  simp(disch:=try exact ag);refine jD (l:=[I (c+x+y:Nat)]) (h:=acH d) (fun q=>?_) ?_
  .by_cases h:i<b.length
   .simp(disch:=try exact ag)[h];rw[aC i9 0 b _ h,ny];simp(disch:=try exact ag)[i9]
   .have:=hy0 h;subst this;simp(disch:=try exact ag)[h]
  simp(disch:=try exact ag)[Zx,Zs]
  have hl:cO 1 [D.int IntKind.i64 0] [(0,V.d (D.int IntKind.i64 (((c:Int)+x+y)%1000000000)))] (acH d)=some ([i9 ((c+x+y)%1000000000)],acH d):=by
   simp[cO,i9,jv,iH,toD]
  rw[hl];simp(disch:=try exact ag);refine AM aa ?_;simp(disch:=try exact ag)[Zx,Zs];simpa using hq
 rcases hcase with c1|⟨c1,c2⟩|⟨c1,c2,c3⟩
 .simp(disch:=try exact ag)[cE,c1];exact main _ bK
 .simp(disch:=try exact ag)[cE,c1,c2];exact main _ bK
 .simp(disch:=try exact ag)[cE,c1,c2,c3];exact main _ bK
theorem yC{l:LnQ}(h:A8 l)(i:Nat):A8 (l.drop i):=by
 intro hne;have hl:l≠[]:=fun e=>hne (by simp[e])
 rw[List.getLast_drop];exact h hl
theorem qc{l:LnQ}(h:A8 l){i:Nat}(hi:i<l.length):val Z (l.drop i)≠0:=
 xh (yC h i) (fun e=>by have:=congrArg List.length e;grind) bB
theorem w6{a b:LnQ}(ha:aH Z a)(hb:aH Z b)(na:A8 a)(nb:A8 b)(M:Nat)(hla:a.length<=M)(hlb:b.length<=M)(hM:M<1000000000)(k:KL)(h0:Hp)(hh:h0.length=1):
  ∀(R c i:Nat)(d:LnQ),R=val Z (a.drop i)+val Z (b.drop i)+c->c<=1->d.length=i->(i<=M∨(i=M+1∧c=0))->k (.exit 0) [acV (d++dig Z R)] (acH (d++dig Z R)) ->
  lp (cE (CX Y) (lst i9 a) (lst i9 b)) [] h0 [I c,acV d,I i] (acH d) k:=by
 intro R
 induction R using Nat.strongRecOn with
 | _ R ih=>
  intro c i d hR hc hd hi hk;refine aj ?_;by_cases hz:R=0
  .have g1:¬i<a.length:=fun h=>qc na h aa
   have g2:¬i<b.length:=fun h=>qc nb h aa
   have g3:c=0:=aa;subst hz g3;simp(disch:=try exact ag)[cE,g1,g2];simpa[j4]using hk
  ·have hcase:i<a.length∨(¬i<a.length∧i<b.length)∨(¬i<a.length∧¬i<b.length∧0<c):=by
    by_cases g1:i<a.length
    .exact .inl g1
    .by_cases g2:i<b.length
     .exact .inr (.inl ⟨g1,g2⟩)
     .refine .inr (.inr ⟨g1,g2,?_⟩);rw[Zb aa,Zb aa]at hR;simp only[val]at hR;omega
   have hxa:=ha.getD bB i;have hxb:=hb.getD bB i;have hx0:¬i<a.length->a.getD i 0=0:=fun h=>by rw[Zy,List.getElem?_eq_none aa];rfl
   have hy0:¬i<b.length->b.getD i 0=0:=fun h=>by rw[Zy,List.getElem?_eq_none aa];rfl
   refine wZ ha hb aa aa hc aa hd _ hcase ?_;simp only[ad3,clean_nil,true_and];rw[Hs 0 h0 _ (by simp[acH,hh])];rw[qC a i,qC b i]at hR;generalize a.getD i 0=x at *;generalize b.getD i 0=y at *;generalize hAA:val Z (a.drop (i+1))=A at *;generalize hBB:val Z (b.drop (i+1))=B at *;have hZ:Z=1000000000:=rfl
   have hmod:R%Z=(c+x+y)%Z:=by simp only[hZ]at *;omega
   have hdiv:R/Z=A+B+(c+x+y)/Z:=by simp only[hZ]at *;omega
   refine ih (R/Z) (Nat.div_lt_self aa ae) _ _ _ (by rw[hdiv,hAA,hBB]) (by simp only[hZ]at *;omega) (by simp[hd]) ?_ ?_
   .simp only[hZ]at *;omega
   .rw[<-hmod];rw[ww aa]at hk;simpa using hk
theorem zE{a b:Nat}(ha:aic a<1000000000)(hb:aic b<1000000000):CP Y F.eB [et a,et b] (et (a+b)):=by
 refine nR ?_;unfold eB;refine w6 (cJ ax a) (cJ ax b) (FD ax a) (FD ax b) (max (aic a) (aic b)) (by unfold aic;omega) (by unfold aic;omega) aa _ _ rfl (a+b) 0 0 [] (by simp[iS ax]) aa rfl aa ?_;simp(disch:=try exact ag)
 exact abY ac1 (h:=acH (dig Z (a+b))) (L:=(dig Z (a+b)).length) (cells:=(dig Z (a+b)).map i9) rfl (by simp[ac1])
theorem vt{a b:LnQ}(ha:aH Z a)(hb:aH Z b)(hla:a.length<1000000000)(hlb:b.length<=a.length)(k:KL)(h0:Hp)(hh:h0.length=1):
  ∀(r c i:Nat)(d:LnQ),i+r=a.length->c<=1->d.length=i->aH Z d->val Z (b.drop i)+c<=val Z (a.drop i) ->
  (∀d':LnQ,d'.length=a.length->aH Z d'->val Z d'=val Z d+Z^i*(val Z (a.drop i)-val Z (b.drop i)-c)->k (.exit 0) [acV d'] (acH d')) ->
  lp (fu (CX Y) (lst i9 a) (lst i9 b)) [] h0 [I c,acV d,I i] (acH d) k:=by
 intro r
 induction r with
 | zero=>
  intro c i d hi hc hd hs hle hk;refine aj ?_;have g:¬i<a.length:=aa;simp(disch:=try exact ag)[fu,g];have e1:a.drop i=[]:=Zb aa;have e2:b.drop i=[]:=Zb aa;exact hk d aa hs (by rw[e1,e2];simp[val])
 | succ r ih=>
  intro c i d hi hc hd hs hle hk;refine aj ?_;have g:i<a.length:=aa;have hxa:=ha.getD bB i;have hxb:=hb.getD bB i;have hy0:¬i<b.length->b.getD i 0=0:=fun h=>by rw[Zy,List.getElem?_eq_none aa];rfl
  have nx:nth 0 a i=a.getD i 0:=rfl;have ny:nth 0 b i=b.getD i 0:=rfl;rw[qC a i,qC b i]at hle;simp only[qC a i,qC b i]at hk;generalize a.getD i 0=x at *;generalize b.getD i 0=y at *;simp only[Z]at hxa hxb;simp(disch:=try exact ag)[fu,g];rw[aC i9 0 a _ g,nx];simp(disch:=try exact ag)[i9]
  refine jD (l:=[I ((x:Int)-c-y)]) (h:=acH d) (fun q=>?_) ?_
  .by_cases h:i<b.length
   .simp(disch:=try exact ag)[h];rw[aC i9 0 b _ h,ny];simp(disch:=try exact ag)[i9]
   .have:=hy0 h;subst this;simp(disch:=try exact ag)[h]
  simp(disch:=try exact ag)
  obtain ⟨e,c',hc',he,hec⟩:∃e c':Nat,c'<=1∧e<1000000000∧((x<c+y∧c'=1∧e+c+y=x+1000000000)∨(¬x<c+y∧c'=0∧e+c+y=x)):=by
   by_cases h:x<c+y
   .exact⟨x+1000000000-c-y,1,aa,aa,.inl ⟨h,rfl,aa⟩⟩
   .exact⟨x-c-y,0,aa,aa,.inr ⟨h,rfl,aa⟩⟩
  refine jD (l:=[I e,I c']) (h:=acH d) (fun q=>?_) ?_
  .rcases hec with⟨h1,rfl,h2⟩|⟨h1,rfl,h2⟩
   .have e1:((x:Int)-c-y+1000000000)=e:=aa;simp(disch:=try exact ag)[show(x:Int)-c-y<0 by omega,e1]
   .have e1:((x:Int)-c-y)=e:=aa;simp(disch:=try exact ag)[show ¬(x:Int)-c-y<0 by omega,e1]
  simp(disch:=try exact ag)
  have hl:cO 1 [D.int IntKind.i64 0] [(0,I e)] (acH d)=some ([i9 e],acH d):=by
   simp[cO,i9,jv,iH,toD]
  rw[hl];simp(disch:=try exact ag);refine AM aa ?_;simp(disch:=try exact ag);rw[Hs 0 h0 _ (by simp[acH,hh]),show((i:Int)+1)=((i+1:Nat):Int) by omega];generalize hAA:val Z (a.drop (i+1))=A at *;generalize hBB:val Z (b.drop (i+1))=B at *;have hZ:Z=1000000000:=rfl
  refine ih c' (i+1) (d++[e]) aa hc' (by simp[hd]) (hs.snoc he) ?_ ?_
  .rw[hAA,hBB];simp only[hZ]at *;omega
  .intro d' h1 h2 h3;refine hk d' h1 h2 ?_;rw[h3,Kn,hd,Nat.pow_succ,Nat.mul_assoc,Nat.add_assoc,<-Nat.mul_add,hAA,hBB];congr 2;simp only[hZ]at *;omega
def dk:Nat->Nat->LnQ
 |0,_=>[]
 |w+1,n=>n%Z::dk w (n/Z)
theorem cT:∀w n,(dk w n).length=w
 |0,_=>rfl
 |w+1,n=>by simp[dk,cT w]
theorem vA:∀w n,aH Z (dk w n)
 |0,_=>fun x hx=>by simp[dk]at hx
 | w+1,n=>fun x hx=>by
  simp only[dk,Zo]at hx;rcases hx with rfl|hx
  .exact Y7 _ bB
  .exact vA w _ x hx
theorem xr:∀w n,n<Z^w->val Z (dk w n)=n
 |0,n,h=>by simp at h;subst h;rfl
 | w+1,n,h=>by
  have hZ:Z=1000000000:=rfl;simp only[dk,val];rw[xr w (n/Z) (Wl (by rw[Nat.pow_succ,Zt]at h;exact h))];have:=Xk n Z;omega
theorem DK:∀l:LnQ,aH Z l->l=dk l.length (val Z l)
 |[],_=>rfl
 | x::l,h=>by
  have hx:x<Z:=h x af;have hl:=DK l (fun y hy=>h y (by simp[hy]));have hZ:Z=1000000000:=rfl;simp only[List.length_cons,dk,val];have e1:(x+Z*val Z l)%Z=x:=by rw[Xu];exact Yk hx
  have e2:(x+Z*val Z l)/Z=val Z l:=by rw[Yr _ _ bB,Wr hx,Zp]
  rw[e1,e2,<-hl]
theorem tB{a b:Nat}(hba:b<=a)(ha:aic a<1000000000):CP Y F.cG [et a,et b] (lst i9 (dk (aic a) (a-b))):=by
 have hlen:aic b<=aic a:=by
  unfold aic;refine(pN ax).2 ?_;exact Zk hba ((pN ax (n:=a)).1 (Z7 _))
 refine mJ ?_;unfold cG;refine vt (cJ ax a) (cJ ax b) ha hlen _ _ rfl (aic a) 0 0 [] (by unfold aic;omega) aa rfl (fun x hx=>by simp at hx) (by simpa[iS ax]using hba) fun d h1 h2 h3=>?_
 have e:d=dk (aic a) (a-b):=by
  have:=DK d h2;rw[h1,h3]at this;simpa[val,iS ax,aic]using this
 simp(disch:=try exact ag);rw[<-e];exact abY ac1 (h:=acH d) (L:=d.length) (cells:=d.map i9) rfl (by simp[ac1])
abbrev S(s:LuQ):V:=.d (.str s)
@[simp]theorem Jq(s:LuQ):nS (S s)=some (I s.length):=id rfl
@[simp] theorem ahI (s:LuQ){j:Int}(h0:0<=j)(h1:j<=s.length):slS (S s) none (some (I j))=some (S (s.take j.toNat)):=by simp only[slS,boV];rw[if_pos ⟨h0,aa⟩];simp
@[simp] theorem ahH (s:LuQ)(h0:0<=i)(h1:i<=s.length):slS (S s) (some (I i)) none=some (S (s.drop i.toNat)):=by simp only[slS,boV];rw[if_pos ⟨h0,aa⟩];simp only;rw[Z6 af]
@[simp]theorem ahi(a b:LuQ):biS .eql (S a) (S b)=some (.d (.bool (a == b))):=id rfl
@[simp]theorem ahh(a b:LuQ):biS .neq (S a) (S b)=some (.d (.bool (!(a == b)))):=id rfl
@[simp]theorem abJ(a b:LuQ)(h:a.length+b.length<=9223372036854775807):biS .add (S a) (S b)=some (S (a++b)):=by simp[biS,NB,h]
theorem VL(s:LuQ){x:UInt8}(h0:0<=i)(h:s[i.toNat]?=some x):ixS (S s) (.d (.int k i))=some (.d (.int .u8 x.toNat)):=by simp only[ixS];rw[if_pos h0,h]
theorem fD{a b:LuQ}{h:Hp}(e:b=a):out (S a) (S b) h:=by subst e;exact UE rfl
theorem uq(s p:LuQ):CP Y F.strings_HasPrefix [S s,S p] (B (p.isPrefixOf s)):=by
 refine nO ?_;simp(disch:=try exact ag)[strings_HasPrefix];refine cd (v:=B (p.isPrefixOf s)) (kP ?_) ?_
 .simp(disch:=try exact ag)[dG];by_cases h:p.length<=s.length
  .simp(disch:=try exact ag)[h];refine nN ?_;rw[Xz,beq_iff_eq,List.isPrefixOf_iff_prefix,List.prefix_iff_eq_take];exact eq_comm
  .simp(disch:=try exact ag)[h];refine nN ?_;symm;rw[Bool.eq_false_iff];intro hp;rw[List.isPrefixOf_iff_prefix]at hp;exact h hp.length_le
 .simp(disch:=try exact ag)
theorem YB(b:Bool):CP Y F.gm [B b] (I (if b=true then 1 else 0)):=by refine vZ ?_;cases b<;>simp[gm]
theorem Ve{x:Nat}(h:x<=64):CP Y F.gh [I x] (I ((x*78913/262144:Nat):Int)):=by refine vY ?_;simp(disch:=try exact ag)[gh]
def aY(n:Nat):Nat:=if n=0 then 0 else n.log2+1
theorem yX{n k:Nat}(h:2^k<=n):aY n=aY (n/2^k)+k:=by
 have hp:0<2^k:=Yj ae;have h0:n≠0:=aa;have h1:n/2^k≠0:=by have:=V4 h hp;omega
 simp only[aY,h0,h1,if_false]
 have e:n.log2=(n/2^k).log2+k:=by
  rw[Nat.log2_eq_iff h0];have h2:=(Nat.log2_eq_iff h1).1 rfl;constructor
  .rw[Y6];exact Zu (Zz _ h2.1) (Ws n _)
  .have:n/2^k+1<=2^((n/2^k).log2+1):=h2.2
   have h3:n<(n/2^k+1)*2^k:=by
    have:=Nat.lt_mul_div_succ n hp;rw[Zt];exact this
   have h4:=Zz (2^k) this;rw[<-Y6]at h4;rw[show(n/2^k).log2+k+1=(n/2^k).log2+1+k by omega];omega
 omega
def acx:LuQ:=[0,1,2,2,3,3,3,3,4,4,4,4,4,4,4,4,5,5,5,5,5,5,5,5,5,5,5,5,5,5,5,5,6,6,6,6,6,6,6,6,6,6,6,6,6,6,6,6,6,6,6,6,6,6,6,6,6,6,6,6,6,6,6,6]++(List.replicate 64 7++List.replicate 128 8)
theorem len8:∀x:Fin 256,acx[x.val]?=some (UInt8.ofNat (aY x.val)):=bb
theorem RY{x:Nat}{a:Nat}{n:Nat}(hx:x<256)(hn:aY n=aY x+a)(ha:a<=56){h:Hp}:
  (bnd (cvI .u8 (.d (.int .u64 x))) fun v10=>bnd (ixS (S acx) v10) fun v11=>
   bnd (cvI .i64 v11) fun v12=>bnd (biI .add (I a) v12) fun v13=>out (I (aY n)) v13 h):=by
 have hb:aY x<=8:=by
  unfold aY;split
  .omega
  .rename_i h0;have:=(Nat.log2_lt h0 (k:=8)).2 aa;omega
 have h8:=len8 ⟨x,hx⟩;simp(disch:=try exact ag);rw[VL _ aa (x:=UInt8.ofNat (aY x)) (by simpa using h8)];have e:(UInt8.ofNat (aY x)).toNat=aY x:=by simp;omega
 simp(disch:=try exact ag)[e];exact cx aa
set_option maxRecDepth 20000 in
theorem An{n:Nat}(h:n<18446744073709551616):CP Y F.eY [.d (.int .u64 n)] (I (aY n)):=by
 refine Ah ?_
 obtain ⟨x1,a1,hx1,he1,ha1,h1⟩:∃x1 a1:Nat,x1<4294967296∧aY n=aY x1+a1∧a1<=32∧((4294967296<=n∧x1=n/4294967296∧a1=32)∨(n<4294967296∧x1=n∧a1=0)):=by
  by_cases hh:4294967296<=n
  .exact⟨n/4294967296,32,aa,yX (k:=32) hh,aa,.inl ⟨hh,rfl,rfl⟩⟩
  .exact⟨n,0,aa,rfl,aa,.inr ⟨aa,rfl,rfl⟩⟩
 obtain ⟨x2,a2,hx2,he2,ha2,h2⟩:∃x2 a2:Nat,x2<65536∧aY n=aY x2+a2∧a2<=48∧((65536<=x1∧x2=x1/65536∧a2=a1+16)∨(x1<65536∧x2=x1∧a2=a1)):=by
  by_cases hh:65536<=x1
  .exact⟨x1/65536,a1+16,aa,by(have:=yX (n:=x1) (k:=16) hh;simp only[Nat.reducePow]at this;omega),aa,.inl ⟨hh,rfl,rfl⟩⟩
  .exact⟨x1,a1,aa,he1,aa,.inr ⟨aa,rfl,rfl⟩⟩
 obtain ⟨x3,a3,hx3,he3,ha3,h3⟩:∃x3 a3:Nat,x3<256∧aY n=aY x3+a3∧a3<=56∧((256<=x2∧x3=x2/256∧a3=a2+8)∨(x2<256∧x3=x2∧a3=a2)):=by
  by_cases hh:256<=x2
  .exact⟨x2/256,a2+8,aa,by(have:=yX (n:=x2) (k:=8) hh;simp only[Nat.reducePow]at this;omega),aa,.inl ⟨hh,rfl,rfl⟩⟩
  .exact⟨x2,a2,aa,he2,aa,.inr ⟨aa,rfl,rfl⟩⟩
 simp[eY];have key:=RY (h:=[]) hx3 he3 ha3;refine jD (l:=[.d (.int .u64 x1),I a1]) (h:=[]) (fun q=>?_) ?_
 .rcases h1 with⟨g,rfl,rfl⟩|⟨g,rfl,rfl⟩<;>simp(disch:=try exact ag)[g]
 simp;refine jD (l:=[.d (.int .u64 x2),I a2]) (h:=[]) (fun q=>?_) ?_
 .rcases h2 with⟨g,rfl,rfl⟩|⟨g,rfl,rfl⟩<;>simp(disch:=try exact ag)[g]
 simp;refine jD (l:=[.d (.int .u64 x3),I a3]) (h:=[]) (fun q=>?_) ?_
 .rcases h3 with⟨g,rfl,rfl⟩|⟨g,rfl,rfl⟩<;>simp(disch:=try exact ag)[g]
 exact key
theorem aap:Ll=(List.range 20).map fun i=>D.int .u64 ((10^i:Nat):Int):=by simp only[Ll,List.range,List.range.loop,List.map];rfl
theorem adN{i:Nat}(h:i<20):Ll[i]?=some (.int .u64 ((10^i:Nat):Int)):=by rw[aap,List.getElem?_map,List.getElem?_range h];rfl
theorem aef:gl od=.dptr Ll 0:=by unfold gl;rfl
theorem adX:∀b:Fin 65,1<=b.val->(10^(b.val*78913/262144)<=2^b.val∧2^b.val<=10^(b.val*78913/262144+1)∧(b.val*78913/262144=0∨10^(b.val*78913/262144-1)<2^(b.val-1))∧b.val*78913/262144<20):=bb
theorem pD{n:Nat}(h:0<n):2^(aY n-1)<=n∧n<2^aY n∧1<=aY n:=by have h0:n≠0:=aa;have:=(Nat.log2_eq_iff h0).1 rfl;simp only[aY,h0,if_false];exact⟨this.1,this.2,aa⟩
theorem Ab{n:Nat}(h1:10^(d-1)<=n)(h2:n<10^d)(hd:1<=d)(h:n<18446744073709551616):CP Y F.dy [.d (.int .u64 n)] (I d):=by
 have h0:0<n:=Z1 (Yj ae) h1;obtain⟨b1,b2,b3⟩:=pD h0
 have hb:aY n<=64:=by
  unfold aY;split
  .omega
  .rename_i hz;have:=(Nat.log2_lt hz (k:=64)).2 (by simpa using h);omega
 obtain⟨t1,t2,t3,t4⟩:=adX ⟨aY n,aa⟩ b3;simp only at t1 t2 t3 t4;refine vX ?_;simp[dy];refine cd (An h) ?_;simp;refine cd (Ve hb) ?_;generalize hk:aY n*78913/262144=k at *;have hg:gl od=.dptr Ll 0:=aef;simp(disch:=try exact ag)[hg];rw[af0 _ _ _ (adN t4)]
 have hpk:10^(k+1)=10*10^k:=by rw[Nat.pow_succ,Zt]
 have hpd:10^d=10*10^(d-1):=by
  obtain⟨e,rfl⟩:∃e,d=e+1:=⟨d-1,aa⟩;rw[Nat.pow_succ,Zt];rfl
 have a1:10^k<=n->d=k+1:=fun hc=>by
  have a1:k<d:=(Yw (a:=10) ae).1 aa;have a2:d-1<k+1:=(Yw (a:=10) ae).1 aa;omega
 have a2:¬10^k<=n->d=k:=fun hc=>by
  have hk1:1<=k:=by
   rcases Zd k with e|e
   .subst e;simp at hc;omega
   .exact e
  have a1:d-1<k:=(Yw (a:=10) ae).1 aa
  have a2:k-1<d:=by
   rcases t3 with e|e
   .omega
   .exact(Yw (a:=10) ae).1 aa
  omega
 generalize 10^k=P at *;simp;refine cd (YB (decide (P<=n))) ?_;by_cases hc:P<=n
 .have:=a1 hc;simp(disch:=try exact ag)[hc];exact cx aa
 .have:=a2 hc;simp(disch:=try exact ag)[hc];exact cx aa
def dg(n:Nat):UInt8:=UInt8.ofNat (48+n)
def dS:Nat->Nat->LuQ
 |_,0=>[]
 |n,w+1=>dS (n/10) w++[dg (n%10)]
theorem bh:∀(w n:Nat),(dS n w).length=w
 |0,_=>rfl
 |w+1,n=>by simp[dS,bh w]
def u8(b:UInt8):D:=.int .u8 b.toNat
def rJ:LuQ:=[48,48,48,49,48,50,48,51,48,52,48,53,48,54,48,55,48,56,48,57,49,48,49,49,49,50,49,51,49,52,49,53,49,54,49,55,49,56,49,57,50,48,50,49,50,50,50,51,50,52,50,53,50,54,50,55,50,56,50,57,51,48,51,49,51,50,51,51,51,52,51,53,51,54,51,55,51,56,51,57,52,48,52,49,52,50,52,51,52,52,52,53,52,54,52,55,52,56,52,57,53,48,53,49,53,50,53,51,53,52,53,53,53,54,53,55,53,56,53,57,54,48,54,49,54,50,54,51,54,52,54,53,54,54,54,55,54,56,54,57,55,48,55,49,55,50,55,51,55,52,55,53,55,54,55,55,55,56,55,57,56,48,56,49,56,50,56,51,56,52,56,53,56,54,56,55,56,56,56,57,57,48,57,49,57,50,57,51,57,52,57,53,57,54,57,55,57,56,57,57]
theorem IE:([48,48,48,49,48,50,48,51,48,52,48,53,48,54,48,55,48,56,48,57,49,48,49,49,49,50,49,51,49,52,49,53,49,54,49,55,49,56,49,57,50,48,50,49,50,50,50,51,50,52,50,53,50,54,50,55,50,56,50,57,51,48,51,49,51,50,51,51,51,52,51,53,51,54,51,55,51,56,51,57,52,48,52,49,52,50,52,51,52,52,52,53,52,54,52,55,52,56,52,57,53,48,53,49,53,50,53,51,53,52,53,53,53,54,53,55,53,56,53,57,54,48,54,49,54,50,54,51,54,52,54,53,54,54,54,55,54,56,54,57,55,48,55,49,55,50,55,51,55,52,55,53,55,54,55,55,55,56,55,57,56,48,56,49,56,50,56,51,56,52,56,53,56,54,56,55,56,56,56,57,57,48,57,49,57,50,57,51,57,52,57,53,57,54,57,55,57,56,57,57]:LuQ)=rJ:=rfl
theorem Rb:∀x:Fin 200,rJ[x.val]?=some (dg (if x.val%2=0 then x.val/2/10 else x.val/2%10)):=bb
def smV(i:Int):D:=u8 (dg (if i%2=0 then i.toNat/2/10 else i.toNat/2%10))
@[simp] theorem aeT (k:IntKind)(i:Int)(K:V->Prop)(u:PU K)(h0:0<=i)(h1:i<200):rn (bnd (ixS (.d (.str rJ)) (.d (.int k i)))) K u=K (.d (smV i)):=by
 have h:=VL rJ (k:=k) h0 (Rb ⟨i.toNat,aa⟩);unfold rn;rw[show V.d (.str rJ)=S rJ from rfl,h]
 have e:(if i.toNat%2=0 then i.toNat/2/10 else i.toNat/2%10)=(if i%2=0 then i.toNat/2/10 else i.toNat/2%10):=by
  by_cases hc:i%2=0
  .rw[if_pos hc,if_pos aa]
  .rw[if_neg hc,if_neg aa]
 simp_all[smV,u8]
theorem adA{x:Nat}:smV (2*(x:Int))=u8 (dg (x/10)):=by grind[smV]
theorem adz{x:Nat}:smV (2*(x:Int)+1)=u8 (dg (x%10)):=by grind[smV]
theorem FI(n w:Nat):dS n (w+2)=dS (n/100) w++[dg (n%100/10),dg (n%100%10)]:=by
 simp only[dS,List.append_assoc,List.singleton_append];rw[Xg];have e1:n/10%10=n%100/10:=aa;have e2:n%10=n%100%10:=aa
 grind
theorem afX{α:Type}:∀(l:List α),l.length=8->∃c0 c1 c2 c3 c4 c5 c6 c7,l=[c0,c1,c2,c3,c4,c5,c6,c7]
 |[c0,c1,c2,c3,c4,c5,c6,c7],_=>⟨c0,c1,c2,c3,c4,c5,c6,c7,rfl⟩
 |[],h|[_],h|[_,_],h|[_,_,_],h|[_,_,_,_],h|[_,_,_,_,_],h|[_,_,_,_,_,_],h|[_,_,_,_,_,_,_],h=>by simp at h
 |_::_::_::_::_::_::_::_::_::_,h=>by simp at h
@[simp]theorem afU(s e off len cap tot:Nat):bj (.ref s e off len cap tot)=some (I len):=rfl
theorem ahK(B:LdQ)(c0 c1 c2 c3 c4 c5 c6 c7 x0 x1 x2 x3 x4 x5 x6 x7:D){i1 i2 i3 i4 i5 i6 i7:Nat}
  (h1:i1=1) (h2:i2=2) (h3:i3=3) (h4:i4=4) (h5:i5=5) (h6:i6=6) (h7:i7=7) :
  ((((((((c0::c1::c2::c3::c4::c5::c6::c7::B).set i7 x7).set i6 x6).set i5 x5).set i4 x4).set i3 x3).set i2 x2).set i1 x1).set 0 x0=x0::x1::x2::x3::x4::x5::x6::x7::B:=by simp_all
theorem ahL(B:LdQ)(c0 c1 c2 c3 x0 x1 x2 x3:D){i2 i3:Nat}(h1:i1=1)(h2:i2=2)(h3:i3=3):
  ((((c0::c1::c2::c3::B).set i3 x3).set i2 x2).set i1 x1).set 0 x0=x0::x1::x2::x3::B:=by grind
theorem set2(B:LdQ)(c0 c1 x0 x1:D)(h1:i1=1):((c0::c1::B).set i1 x1).set 0 x0=x0::x1::B:=by grind
@[simp]theorem afL(i:Int):norm (smV i)=smV i:=rfl
theorem uX{x:Nat}(h:i=2*(x:Int)+1):smV i=u8 (dg (x%10)):=by rw[h,adz]
theorem uY{x:Nat}(h:i=2*(x:Int)):smV i=u8 (dg (x/10)):=by rw[h,adA]
theorem agi(n w:Nat):dS n (w+8)=dS (n/100000000) w++[dg (n/1000000%100/10),dg (n/1000000%100%10),dg (n/10000%100/10),dg (n/10000%100%10),dg (n/100%100/10),dg (n/100%100%10),dg (n%100/10),dg (n%100%10)]:=by simp[FI,Xg]
theorem aa7(h0:Hp)(hh:h0.length=2)(k:KL)(off len cap tot:Nat)(pre post:LdQ)(hpre:pre.length=off):∀(r nd n:Nat)(mid done:LdQ),nd<=r->mid.length=nd->nd+done.length=len->len<=24->tot=off+len+post.length ->
  n<10^nd->n<18446744073709551616 ->
  (∀(n' nd':Nat)(mid' done':LdQ),nd'<8->mid'.length=nd'->nd'+done'.length=len->n'<10^nd'->(dS n' nd').map u8++done'=(dS n nd).map u8++done->k (.exit 0) [.d (.int .u64 n'),I nd'] [(1,.data 1 (pre++(mid'++(done'++post))) true false),nnQ]) ->
  lp (eu (CX Y) 2 (.ref 0 1 off len cap tot)) [] h0 [.d (.int .u64 n),I nd] [(1,.data 1 (pre++(mid++(done++post))) true false),nnQ] k:=by
 intro r
 induction r with
 | zero=> 
  intro nd n mid done hr hm hd hl ht hn h64 hk;refine aj ?_;simp(disch:=try exact ag)[eu];exact hk n nd mid done aa hm hd hn rfl
 | succ r ih=>
  intro nd n mid done hr hm hd hl ht hn h64 hk;refine aj ?_;by_cases h8:8<=nd
  ·obtain ⟨m',c0,c1,c2,c3,c4,c5,c6,c7,rfl⟩:∃(m':LdQ)(c0 c1 c2 c3 c4 c5 c6 c7:D),mid=m'++[c0,c1,c2,c3,c4,c5,c6,c7]:=by
    obtain⟨c0,c1,c2,c3,c4,c5,c6,c7,e⟩:=afX (mid.drop (nd-8)) (by grind);exact⟨mid.take (nd-8),c0,c1,c2,c3,c4,c5,c6,c7,by rw[<-e,Yi]⟩
   have e0:pre++(m'++[c0,c1,c2,c3,c4,c5,c6,c7]++(done++post))=(pre++m')++c0::c1::c2::c3::c4::c5::c6::c7::(done++post):=af;rw[e0];simp only[Zm,List.length_cons,List.length_nil]at hm;have hA:(pre++m').length=off+nd-8:=by simp;omega
   have e9:∀x0 x1 x2 x3 x4 x5 x6 x7:D,(pre++m')++x0::x1::x2::x3::x4::x5::x6::x7::(done++post)=pre++(m'++((x0::x1::x2::x3::x4::x5::x6::x7::done)++post)):=by intros;simp
   generalize pre++m'=A at *;unfold eu;simp only[IE];simp(disch:=try exact ag)[Zx,Zs];rw[ahK _ _ _ _ _ _ _ _ _ _ _ _ _ _ _ _ _ aa aa aa aa aa aa aa,e9]
   rw[uX (x:=n%100) (i:=(n:Int)%100*2+1) aa,uY (x:=n%100) (i:=(n:Int)%100*2) aa,uX (x:=n/100%100) (i:=(n:Int)%10000/100*2+1) aa,uY (x:=n/100%100) (i:=(n:Int)%10000/100*2) aa,uX (x:=n/10000%100) (i:=(n:Int)%100000000/10000%100*2+1) aa,uY (x:=n/10000%100) (i:=(n:Int)%100000000/10000%100*2) aa,uX (x:=n/1000000%100) (i:=(n:Int)%100000000/10000/100*2+1) aa,uY (x:=n/1000000%100) (i:=(n:Int)%100000000/10000/100*2) aa]
   obtain⟨w,rfl⟩:∃w,nd=w+8:=⟨nd-8,aa⟩;have hd8:=agi n w;rw[show((w+8:Nat):Int)-8=(w:Nat) by omega,show(n:Int)/100000000=((n/100000000:Nat):Int) by omega]
   refine ih w (n/100000000) m' (u8 (dg (n/1000000%100/10))::u8 (dg (n/1000000%100%10))::u8 (dg (n/10000%100/10))::u8 (dg (n/10000%100%10))::u8 (dg (n/100%100/10))::u8 (dg (n/100%100%10))::u8 (dg (n%100/10))::u8 (dg (n%100%10))::done) aa aa bK hl ht ?_ aa ?_
   .grind
   .intro n' nd' mid' done' g1 g2 g3 g4 g5;refine hk n' nd' mid' done' g1 g2 g3 g4 ?_;rw[g5,hd8];simp
  .simp(disch:=try exact ag)[eu];exact hk n nd mid done aa hm hd hn rfl
theorem O5{x:Nat}(h:x<10):u8 (dg x)=.int .u8 (48+x):=by unfold u8 dg;congr 1;simp;omega
theorem afY{α:Type}:∀(l:List α),l.length=4->∃c0 c1 c2 c3,l=[c0,c1,c2,c3]
 |[c0,c1,c2,c3],_=>⟨c0,c1,c2,c3,rfl⟩
 |[],h|[_],h|[_,_],h|[_,_,_],h=>by simp at h
 |_::_::_::_::_::_,h=>by grind
theorem afZ{α:Type}:∀(l:List α),l.length=2->∃c0 c1,l=[c0,c1]
 |[c0,c1],_=>⟨c0,c1,rfl⟩
 |[],h|[_],h=>by simp at h
 |_::_::_::_,h=>by grind
theorem aa8(n nd:Nat)(mid B:LdQ)(h8:nd<8)(hm:mid.length=nd)(hn:n<10^nd):∃(n1 nd1:Nat)(mid1 B1:LdQ),nd1<4∧mid1.length=nd1∧n1<10^nd1∧nd1+B1.length=nd+B.length∧(dS n1 nd1).map u8++B1=(dS n nd).map u8++B ∧
  ((4<=nd∧n1=n/10000∧nd1=nd-4∧(∃c0 c1 c2 c3,mid=mid1++[c0,c1,c2,c3])∧B1=u8 (dg (n/100%100/10))::u8 (dg (n/100%100%10))::u8 (dg (n%100/10))::u8 (dg (n%100%10))::B)∨(¬4<=nd∧n1=n∧nd1=nd∧mid1=mid∧B1=B)):=by
 by_cases h4:4<=nd
 .obtain⟨w,rfl⟩:∃w,nd=w+4:=⟨nd-4,aa⟩;obtain⟨c0,c1,c2,c3,e⟩:=afY (mid.drop w) (by grind);refine⟨n/10000,w,mid.take w,_,aa,by grind,?_,?_,?_,.inl ⟨h4,rfl,aa,⟨c0,c1,c2,c3,by rw[<-e,Yi]⟩,rfl⟩⟩
  .grind
  .grind
  simp[FI,Xg]
 .exact⟨n,nd,mid,B,aa,hm,hn,rfl,rfl,.inr ⟨h4,rfl,rfl,rfl,rfl⟩⟩
theorem aeo(n nd:Nat)(mid B:LdQ)(h8:nd<4)(hm:mid.length=nd)(hn:n<10^nd):∃(n1 nd1:Nat)(mid1 B1:LdQ),nd1<2∧mid1.length=nd1∧n1<10^nd1∧nd1+B1.length=nd+B.length∧(dS n1 nd1).map u8++B1=(dS n nd).map u8++B ∧
  ((2<=nd∧n1=n/100∧nd1=nd-2∧(∃c0 c1,mid=mid1++[c0,c1])∧B1=u8 (dg (n%100/10))::u8 (dg (n%100%10))::B)∨(¬2<=nd∧n1=n∧nd1=nd∧mid1=mid∧B1=B)):=by
 by_cases h4:2<=nd
 .obtain⟨w,rfl⟩:∃w,nd=w+2:=⟨nd-2,aa⟩;obtain⟨c0,c1,e⟩:=afZ (mid.drop w) (by grind);refine⟨n/100,w,mid.take w,_,aa,by grind,?_,?_,?_,.inl ⟨h4,rfl,aa,⟨c0,c1,by rw[<-e,Yi]⟩,rfl⟩⟩
  .grind
  .grind
  simp[FI]
 .exact⟨n,nd,mid,B,aa,hm,hn,rfl,rfl,.inr ⟨h4,rfl,rfl,rfl,rfl⟩⟩
def fbH(pre mid B:LdQ):Hp:=[(1,.data 1 (pre++(mid++B)) true false),nnQ]
theorem acE{off tot n:Nat}{pre mid post:LdQ}(hpre:pre.length=off)(hm:mid.length=d)(hd:d<=24)(ht:tot=off+d+post.length)(hn:n<10^d)(h64:n<18446744073709551616):
  CI Y F.bN [.ref 0 1 off d cap tot,.d (.int .u64 n)] [(1,.data 1 (pre++(mid++post)) true false),nnQ] (.tup []) [(1,.data 1 (pre++((dS n d).map u8++post)) true false),nnQ]:=by
 refine t8 ?_;unfold bN;simp only[IE];simp;refine lo (aa7 _ rfl _ off d cap tot pre post hpre d d n mid [] aa hm af hd ht hn h64 (fun n' nd mid' done g1 g2 g3 g4 g5=>?_));have hp8:10^nd<=10^7:=Z4 ae aa;simp only[Nat.reducePow]at hp8;simp(disch:=try exact ag)
 obtain⟨n1,d1,mid1,B1,f1,f2,f3,f4,f5,f6⟩:=aa8 n' nd mid' (done++post) g1 g2 g4;refine jD (l:=[.d (.int .u32 n1),I d1]) (h:=fbH pre mid1 B1) (fun q=>?_) ?_
 .rcases f6 with⟨c,rfl,rfl,⟨c0,c1,c2,c3,rfl⟩,rfl⟩|⟨c,rfl,rfl,rfl,rfl⟩
  .have e0:pre++(mid1++[c0,c1,c2,c3]++(done++post))=(pre++mid1)++c0::c1::c2::c3::(done++post):=af;rw[e0];simp only[Zm,List.length_cons,List.length_nil]at g2;have hA:(pre++mid1).length=off+nd-4:=by simp;omega
   have e9:∀x0 x1 x2 x3:D,(pre++mid1)++x0::x1::x2::x3::(done++post)=pre++(mid1++(x0::x1::x2::x3::(done++post))):=by intros;simp
   generalize pre++mid1=A at *;simp(disch:=try exact ag)[c,Zx,Zs];rw[ahL _ _ _ _ _ _ _ _ _ aa aa aa,e9]
   rw[uX (x:=n'%100) (i:=(n':Int)%100*2+1) aa,uY (x:=n'%100) (i:=(n':Int)%100*2) aa,uX (x:=n'/100%100) (i:=(n':Int)%10000/100*2+1) aa,uY (x:=n'/100%100) (i:=(n':Int)%10000/100*2) aa];simp[fbH,I,show((nd-4:Nat):Int)=(nd:Int)-4 by omega]
  .simp(disch:=try exact ag)[c,fbH]
 have hp4:10^d1<=10^3:=Z4 ae aa;simp only[Nat.reducePow]at hp4;simp;obtain⟨n2,d2,mid2,B2,e1,e2,e3,e4,e5,e6⟩:=aeo n1 d1 mid1 B1 f1 f2 f3;refine jD (l:=[.d (.int .u32 n2),I d2]) (h:=fbH pre mid2 B2) (fun q=>?_) ?_
 .rcases e6 with⟨c,rfl,rfl,⟨c0,c1,rfl⟩,rfl⟩|⟨c,rfl,rfl,rfl,rfl⟩
  .have e0:pre++(mid2++[c0,c1]++B1)=(pre++mid2)++c0::c1::B1:=af;rw[fbH,e0];simp only[Zm,List.length_cons,List.length_nil]at f2;have hA:(pre++mid2).length=off+d1-2:=by simp;omega
   have hB:tot=off+d1+B1.length:=by simp at f4;omega
   have e9:∀x0 x1:D,(pre++mid2)++x0::x1::B1=pre++(mid2++(x0::x1::B1)):=by intros;simp
   generalize pre++mid2=A at *;simp(disch:=try exact ag)[c,Zx,Zs];rw[set2 _ _ _ _ _ aa,e9];rw[uX (x:=n1%100) (i:=(n1:Int)%100*2+1) aa,uY (x:=n1%100) (i:=(n1:Int)%100*2) aa];simp[fbH,I,show((d1-2:Nat):Int)=(d1:Int)-2 by omega]
  .simp(disch:=try exact ag)[c,fbH]
 simp
 have hend:fbH pre ((dS n2 d2).map u8) B2=[(1,.data 1 (pre++((dS n d).map u8++post)) true false),nnQ]:=by
  simp only[fbH];rw[e5,f5,<-List.append_assoc ((dS n' nd).map u8),g5];simp
 refine jD (l:=[]) (h:=fbH pre ((dS n2 d2).map u8) B2) (fun q=>?_) ?_
 .match d2,e1,mid2,e2 with
  |0,_,[],_=>simp[fbH,dS]
  | 1,_,[c0],_=>
   have hn2:n2<10:=by simpa using e3
   have hB:tot=off+1+B2.length:=by simp at f4;omega
   simp(disch:=try exact ag)[fbH,dS];rw[Yk hn2,O5 hn2]
 rw[hend];simp[qN];exact⟨by trivial,.inl (by trivial)⟩
@[simp]theorem ah4(s n:Nat)(cs:LdQ)(h:Hp)(k:kkQ)(u:PU k):rh (alD s n cs h) k u=rn (bnh h[s]?) (fun x=>k (.ptr s (x.1+1) 0 cs.length) (h.set s (x.1+1,.data n cs true false))) .mk:=by unfold rh rn alD;exact Dv ..
def ndg(n:Nat):Nat:=if n<10 then 1 else ndg (n/10)+1
theorem md(n:Nat):1<=ndg n:=by unfold ndg;split<;>omega
theorem cY:∀n:Nat,n<10^ndg n:=by
 intro n
 induction n using Nat.strongRecOn with
 | _ n ih=>
  unfold ndg;split
  .simpa using ‹n<10›
  .have:=ih (n/10) aa;rw[Nat.pow_succ];omega
theorem BH:∀n:Nat,0<n->10^(ndg n-1)<=n:=by
 intro n
 induction n using Nat.strongRecOn with
 | _ n ih=>
  intro h0;unfold ndg;split
  .simp;omega
  .have h1:=ih (n/10) aa aa;have h2:=md (n/10);rw[show ndg (n/10)+1-1=(ndg (n/10)-1)+1 by omega,Nat.pow_succ];omega
theorem cN{n:Nat}(h:n<10^d)(hd:1<=d):ndg n<=d:=by
 rcases Zd n with e|e
 .subst e;unfold ndg;rw[if_pos aa];exact hd
 .have h1:=BH n e;have:ndg n-1<d:=(Yw (a:=10) ae).1 aa;omega
def ai(n:Nat):LuQ:=dS n (ndg n)
def itoa(z:Int):LuQ:=if z<0 then 45::ai z.natAbs else ai z.natAbs
def WO:LuQ:=[48,49,50,51,52,53,54,55,56,57,97,98,99,100,101,102,103,104,105,106,107,108,109,110,111,112,113,114,115,116,117,118,119,120,121,122]
theorem agf:([48,49,50,51,52,53,54,55,56,57,97,98,99,100,101,102,103,104,105,106,107,108,109,110,111,112,113,114,115,116,117,118,119,120,121,122]:LuQ)=WO:=rfl
theorem Ti:∀x:Fin 10,(WO.drop x.val).take 1=ai x.val:=bb
theorem Tj:∀x:Fin 100,10<=x.val->(rJ.drop (2*x.val)).take 2=ai x.val:=by intro x hx;have h1:=(show ∀x:Fin 100,(rJ.drop (2*x.val)).take 2=dS x.val 2 by decide+kernel) x;rw[h1,ai];congr 1;unfold ndg;rw[if_neg aa];unfold ndg;rw[if_pos aa]
theorem ND{s:LuQ}{l:IntKind}{j:Int}(a b:Nat)(hi:i=a)(hj:j=b)(h1:a<=b)(h2:b<=s.length):slS (.d (.str s)) (some (.d (.int k i))) (some (.d (.int l j)))=some (.d (.str ((s.drop a).take (b-a)))):=by subst hi hj;simp only[slS,boV];rw[if_pos aa];simp only[];rw[if_pos aa];simp
theorem KM{n:Nat}(h:n<100):CP Y F.iK [I n] (S (ai n)):=by
 refine Aw ?_;unfold iK;simp only[IE,agf];by_cases c:n<10
 .simp(disch:=try exact ag)[c];rw[ND n (n+1) aa aa aa (by rw[show WO.length=36 from rfl];omega)];have:=Ti ⟨n,c⟩;simp only[]at this;simp[this];exact fD rfl
 .simp(disch:=try exact ag)[c];rw[ND (2*n) (2*n+2) aa aa aa (by rw[show rJ.length=200 from rfl];omega)];have:=Tj ⟨n,h⟩ (by simpa using c);simp only[]at this;simp[this];exact fD rfl
theorem Cc:∀l:LuQ,bytesD (l.map u8)=some l
 |[]=>rfl
 | b::l=>by
  have hb:=b.toNat_lt;simp only[Z2,u8,bytesD];rw[if_pos aa];have:=Cc l;rw[this];simp
abbrev cH(cells:LdQ):Hp:=[(1,.data 1 cells true false),nnQ]
theorem Tn(hc:cells.length=24){l:IntKind}{j:Int}(a b:Nat)(hi:i=a)(hj:j=b)(h1:a<=b)(h2:b<=24):
  slP 24 1 (cH cells) (.ptr 0 1 0 24) (some (.d (.int k i))) (some (.d (.int l j)))=some (.ref 0 1 a (b-a) (24-a) 24):=by simp only[slP,cH,aw];simp[nz hj h2,nz hi h1,hc]
theorem IH(hc:cells.length=24){l:IntKind}{j:Int}(b:Nat)(hj:j=b)(h2:b<=24):
  slP 24 1 (cH cells) (.ptr 0 1 0 24) none (some (.d (.int l j)))=some (.ref 0 1 0 b 24 24):=by simp only[slP,cH,aw];simp[nz hj h2,FS,hc]
theorem OH(hc:cells.length=24){i len:Nat}{bs:LuQ}(hl:i+len<=24)(he:(cells.drop i).take len=bs.map u8)(hb:bs.length=len):cvT (cH cells) (.ref 0 1 i len cap 24)=some (S bs):=by simp only[cvT,cellsOf,cH,aw];simp[hc,hl,he,hb,Cc]
theorem Sd(h1 : -9223372036854775808<z)(h2:z<9223372036854775808):CP Y F.dz [I z,I 10] (S (itoa z)):=by
 refine wd ?_;have hd1:=md z.natAbs;have hd2:ndg z.natAbs<=19:=cN aa aa;have hn:=cY z.natAbs;by_cases hs:0<=z∧z<100
 .obtain⟨hs1,hs2⟩:=hs;obtain⟨n,rfl⟩:∃n:Nat,z=n:=⟨z.toNat,aa⟩;simp[dz,hs1,hs2];refine cd (KM (n:=n) aa) ?_;rw[show itoa (n:Int)=ai n by unfold itoa;rw[if_neg aa];rfl];exact fD rfl
 .have hcs:(0<=z∧¬z<100)∨¬0<=z:=aa;have hw:z<0->IntKind.wrap .u64 z=z+18446744073709551616:=fun h=>by rw[GY];omega
  have hw2:z<0->IntKind.wrap .u64 (-(z+18446744073709551616)) = -z:=fun h=>by rw[GY];omega
  have hn64:z.natAbs<18446744073709551616:=aa;have hn0:0<z.natAbs:=aa;have hab:(z.natAbs:Int)=if z<0 then -z else z:=by split<;>omega
  have hit:itoa z=if z<0 then 45::dS z.natAbs (ndg z.natAbs)else dS z.natAbs (ndg z.natAbs):=rfl
  have hlo:=BH z.natAbs hn0;generalize ndg z.natAbs=d at *;generalize z.natAbs=n at *
  obtain ⟨mid,post,hm,hp,hcell⟩:∃mid post:LdQ,mid.length=d∧post.length=23-d∧List.replicate 24 (D.int .u8 0)=[D.int .u8 0]++(mid++post):=by
   refine⟨List.replicate d (.int .u8 0),List.replicate (23-d) (.int .u8 0),af,af,?_⟩;rw[X2,show d+(23-d)=23 by omega];rfl
  have hmain:cal (CX Y).p (cH ([D.int .u8 0]++(mid++post))) (.fn F.dy [] []) [.d (.int .u64 n)] fun v12 h=>
    bnd (biI .add (.d (.int .i64 1)) v12) fun v13=>
    bnd (slP 24 1 h (.ptr 0 1 0 24) (some (.d (.int .i64 1))) (some v13)) fun v14=>
    cai (CX Y).i h (.fn F.bN [] []) [v14,.d (.int .u64 n)] 1 fun v15 h=>
    bnd (biI .lss (I z) (.d (.int .i64 0))) fun v16=>
    cnd v16 (
     bnd (ixP 24 1 (.ptr 0 1 0 24) (.d (.int .i64 0))) fun v17=>
     stD h 1 v17 (.d (.int .u8 45)) fun _ h=>
     bnd (biI .add (.d (.int .i64 1)) v12) fun v19=>
     bnd (slP 24 1 h (.ptr 0 1 0 24) none (some v19)) fun v20=>
     bnd (cvT h v20) fun v21=>
     out (S (itoa z)) v21 h) (
     bnd (biI .add (.d (.int .i64 1)) v12) fun v22=>
     bnd (slP 24 1 h (.ptr 0 1 0 24) (some (.d (.int .i64 1))) (some v22)) fun v23=>
     bnd (cvT h v23) fun v24=>
     out (S (itoa z)) v24 h):=by
   refine cd (u:=.mk) (Ab hlo hn hd1 hn64) ?_;simp(disch:=try exact ag);rw[Tn bK 1 (d+1) aa aa aa aa];simp;refine pT (h':=cH ([D.int .u8 0]++((dS n d).map u8++post))) (acE (pre:=[D.int .u8 0]) rfl hm aa aa hn hn64) ?_ af;by_cases g:z<0
   .rw[if_pos g]at hit;simp[g,bh,hp];rw[uv _ _ _ _ _ _ _ _ _ (by simp[bh];omega) af];simp(disch:=try exact ag)[bS];rw[IH (by simp[bh];omega) (d+1) aa aa];simp;rw[OH (bs:=45::dS n d) (by simp[bh];omega) aa (by simp[u8,bh,List.take_append,Z6]) (by simp[bh])]
    rw[hit];simp;exact fD rfl
   .rw[if_neg g]at hit;simp(disch:=try exact ag)[g];rw[Tn (by simp[bh];omega) 1 (d+1) aa aa aa aa];simp;rw[OH (bs:=dS n d) (by simp[bh];omega) aa (by simp[bh,List.take_append,Z6]) (by simp[bh])];rw[hit];simp;exact fD rfl
  rcases hcs with⟨g1,g2⟩|g1
  .have g3:¬z<0:=aa;rw[if_neg g3]at hab;simp[dz,g1,g2];refine jD (l:=[.d (.int .u64 n)]) (h:=cH ([D.int .u8 0]++(mid++post))) (fun q=>?_) hmain;rw[<-hcell];simp(disch:=try exact ag)[g3,hab]
  .have g3:z<0:=aa;rw[if_pos g3]at hab;simp[dz,g1];refine jD (l:=[.d (.int .u64 n)]) (h:=cH ([D.int .u8 0]++(mid++post))) (fun q=>?_) hmain;rw[<-hcell];simp[g3,hab,hw g3,hw2 g3]
theorem aea(h1 : -9223372036854775808<z)(h2:z<9223372036854775808):CP Y F.lh [I z] (S (itoa z)):=by refine BM ?_;simp[lh];refine cd (Sd h1 h2) ?_;exact fD rfl
theorem DG(h1 : -9223372036854775808<z)(h2:z<9223372036854775808):CP Y F.strconv_Itoa [I z] (S (itoa z)):=by refine Eh ?_;simp[strconv_Itoa];refine cd (aea h1 h2) ?_;exact fD rfl
def qt(b:UInt8):Bool:=decide (48<=b.toNat)&&decide (b.toNat<=57)
theorem mA{b:UInt8}:qt b=true↔48<=b.toNat∧b.toNat<=57:=by simp[qt]
def fE(a:Nat)(s:LuQ):Nat:=s.foldl (fun a b=>a*10+(b.toNat-48)) a
@[simp]theorem HU(a:Nat):fE a []=a:=by unfold fE;rw[List.foldl_nil]
@[simp]theorem ky(a:Nat)(b:UInt8)(s:LuQ):fE a (b::s)=fE (a*10+(b.toNat-48)) s:=by unfold fE;rw[List.foldl_cons]
theorem JH(x:Nat):(dg x).toNat=(48+x)%256:=by simp[dg]
theorem agh{b:UInt8}(h:qt b=true):dg (b.toNat-48)=b:=by rw[mA]at h;apply UInt8.toNat.inj;rw[JH];omega
theorem HZ:∀(s:LuQ)(a w:Nat),s.all qt=true->dS (fE a s) (w+s.length)=dS a w++s
 |[],a,w,_=>by simp
 | b::s,a,w,h=>by
  simp only[List.all_cons,Z8]at h;have:=HZ s (a*10+(b.toNat-48)) (w+1) h.2;have hb:=mA.1 h.1;rw[ky,List.length_cons,show w+(s.length+1)=w+1+s.length by omega,this];simp only[dS];rw[show(a*10+(b.toNat-48))/10=a by omega,show(a*10+(b.toNat-48))%10=b.toNat-48 by omega,agh h.1];simp
theorem Ff:∀(s:LuQ)(a:Nat),a*10^s.length<=fE a s
 |[],a=>by simp
 | b::s,a=>by
  have:=Ff s (a*10+(b.toNat-48));rw[ky,List.length_cons,Nat.pow_succ];refine Zu ?_ this;rw[Zt (10^s.length),<-Nat.mul_assoc];exact Zz _ aa
theorem uG:∀(s:LuQ)(a:Nat),s.all qt=true->fE a s<(a+1)*10^s.length
 |[],a,_=>by simp
 | b::s,a,h=>by
  simp only[List.all_cons,Z8]at h;have:=uG s (a*10+(b.toNat-48)) h.2;have hb:=mA.1 h.1;rw[ky,List.length_cons,Nat.pow_succ];refine Z1 this ?_;rw[Zt (10^s.length),<-Nat.mul_assoc];exact Zz _ aa
theorem US{n:Nat}(h1:10^d<=n)(h2:n<10^(d+1)):ndg n=d+1:=by have:=cN h2 aa;have h3:=cY n;have:d<ndg n:=(Yw (a:=10) ae).1 aa;omega
def qR(s:LuQ):Bool:=!s.isEmpty&&s.all qt && !(decide (1<s.length)&&decide (s.headD 0=48))
theorem E7{s:LuQ}(h:qR s=true):ai (fE 0 s)=s:=by
 simp only[qR,Z8,Y9,Xa,decide_eq_false_iff_not]at h;obtain⟨⟨h0,h1⟩,h2⟩:=h;cases s with
 |nil=>simp at h0
 | cons b s=>
  have hd:=HZ (b::s) 0 0 h1;simp only[List.all_cons,Z8]at h1;have hb:=mA.1 h1.1;simp only[Zp,dS,List.nil_append]at hd
  have hn:ndg (fE 0 (b::s))=(b::s).length:=by
   have lo:=Ff s (b.toNat-48);have hi:=uG s (b.toNat-48) h1.2;simp only[ky,Xl,Zp,List.length_cons]at *;by_cases hs:s=[]
   .subst hs;simp only[HU,List.length_nil,Zp];unfold ndg;rw[if_pos aa]
   .have hl:0<s.length:=Xj.2 hs
    have hb0:b.toNat≠48:=by
     rcases h2 with h2|h2
     .omega
     .intro e;apply h2;simp only[List.headD_cons];apply UInt8.toNat.inj;rw[e];rfl
    refine US ?_ ?_
    .refine Zu ?_ lo;have:=Zz (10^s.length) (show 1<=b.toNat-48 by omega);omega
    .refine Z1 hi ?_;rw[Nat.pow_succ,Zt];exact Zw _ aa
  unfold ai;rw[hn];exact hd
theorem aaY{x:Nat}(h:x<10):qt (dg x)=true:=by rw[mA,JH];omega
theorem aet{x:Nat}(h:x<10):(dg x).toNat=48+x:=by rw[JH];omega
theorem nq:∀(w n:Nat),(dS n w).all qt=true
 |0,_=>rfl
 | w+1,n=>by
  simp only[dS,Yp,nq w,List.all_cons,List.all_nil,Y4,Zg];exact aaY aa
theorem vy:∀(s t:LuQ)(a:Nat),fE a (s++t)=fE (fE a s) t
 |[],t,a=>rfl
 |b::s,t,a=>by rw[List.cons_append,ky,ky,vy s t]
theorem xU:∀(w n:Nat),n<10^w->fE 0 (dS n w)=n
 |0,n,h=>by simp at h;subst h;rfl
 | w+1,n,h=>by
  have:=xU w (n/10) (by rw[Nat.pow_succ]at h;omega);simp only[dS,vy,this,ky,HU];rw[aet aa];omega
theorem tA(n:Nat):qR (ai n)=true:=by
 have hl:(ai n).length=ndg n:=bh ..;have hp:=md n;have ha:(ai n).all qt=true:=nq ..;have hh:fE 0 (ai n)=n:=xU _ _ (cY n);cases he:ai n with
 |nil=>rw[he]at hl;simp at hl;omega
 | cons b s=>
  rw[he]at hl ha hh;simp only[qR,List.isEmpty_cons,Bool.not_false,Zg,ha,List.headD_cons,Y9,Xa,decide_eq_false_iff_not];by_cases h1:1<(b::s).length
  .right;refine decide_eq_false fun e=>?_
   subst e;simp only[List.all_cons,Z8]at ha;have hi:=uG s 0 ha.2;simp only[ky,List.length_cons]at *;have e48:(48:UInt8).toNat=48:=rfl;rw[e48]at hh;simp only[Nat.sub_self,Xl,Zp,Xr]at *;rw[hh]at hi
   have lo:=BH n (by
    rcases Zd n with e|e
    .have e1:ndg 0=1:=by unfold ndg;rfl
     rw[e,e1]at hl;omega
    .exact e)
   rw[<-hl]at lo;simp at lo;omega
  .left;simpa using h1
theorem dZ(n:Nat):fE 0 (ai n)=n:=xU _ _ (cY n)
def rdS(s:LuQ):Option Int:=if s.headD 0=45 then(if qR s.tail=true∧s.tail≠[48]then some (-(fE 0 s.tail:Int))else none)else if qR s=true then some (fE 0 s:Int)else none
theorem xp(n:Nat):ai n≠[]:=by intro e;have:(ai n).length=ndg n:=bh ..;have:=md n;rw[e]at *;simp at *;omega
theorem tg(n:Nat):(ai n).headD 0≠45:=by
 have ha:(ai n).all qt=true:=nq ..;cases he:ai n with
 |nil=>exact absurd he (xp n)
 | cons b s=>
  rw[he]at ha;simp only[List.all_cons,Z8,mA]at ha;simp only[List.headD_cons];intro e;subst e;have:(45:UInt8).toNat=45:=rfl;omega
theorem Le(z:Int):rdS (itoa z)=some z:=by
 unfold rdS itoa;by_cases hz:z<0
 .rw[if_pos hz,List.headD_cons,if_pos rfl,List.tail_cons,tA,dZ,if_pos]
  .congr 1;omega
  .refine⟨rfl,fun e=>?_⟩;have:=dZ z.natAbs;rw[e]at this;have e2:fE 0 [48]=0:=rfl;omega
 .rw[if_neg hz,if_neg (tg _),if_pos (tA _),dZ];congr 1;omega
theorem Ue{s:LuQ}(h:rdS s=some z):s=itoa z:=by
 unfold rdS at h;split at h
 .rename_i hd;split at h
  .rename_i hc;simp only[Z9]at h;subst h;cases s with
   |nil=>simp at hd
   | cons b s=>
    simp only[List.headD_cons]at hd;subst hd;simp only[List.tail_cons]at *;have he:=E7 hc.1
    have h0:fE 0 s≠0:=by
     intro e;rw[e]at he;apply hc.2;rw[<-he];unfold ai ndg;rfl
    unfold itoa;rw[if_pos aa,Int.natAbs_neg,Int.natAbs_natCast,he]
  .cases h
 .split at h
  .rename_i hc;simp only[Z9]at h;subst h;unfold itoa;rw[if_neg aa,Int.natAbs_natCast,E7 hc]
  .cases h
theorem AR:∀(v w n:Nat),dS n (w+v)=dS (n/10^v) w++dS n v
 |0,w,n=>by simp[dS]
 | v+1,w,n=>by
  rw[show w+(v+1)=(w+v)+1 by omega];simp only[dS];rw[AR v w (n/10),Xg,Nat.pow_succ,Zt 10,List.append_assoc]
theorem AQ:∀(w n m:Nat),dS (n+10^w*m) w=dS n w
 |0,_,_=>rfl
 | w+1,n,m=>by
  simp only[dS];have e:n+10^(w+1)*m=n+10*(10^w*m):=by rw[Nat.pow_succ,Zt (10^w) 10,Nat.mul_assoc]
  rw[e,Yr _ _ ae,Xu,AQ w]
theorem tK:∀w,dS 0 w=List.replicate w 48
 |0=>rfl
 | w+1=>by
  simp only[dS,Nat.zero_div,Nat.zero_mod,tK w];rw[List.replicate_succ'];rfl
theorem A6{n:Nat}(h:ndg n<=w):List.replicate (w-ndg n) 48++ai n=dS n w:=by have:=AR (ndg n) (w-ndg n) n;rw[show w-ndg n+ndg n=w by omega,Wr (cY n),tK]at this;exact this.symm
theorem R4{t k r:Nat}(ht:0<t)(hr:r<10^k):ai (r+10^k*t)=ai t++dS r k:=by
 have h1:=BH t ht;have h2:=cY t;have h3:=md t;obtain⟨d,hd⟩:∃d,ndg t=d+1:=⟨ndg t-1,aa⟩
 have hn:ndg (r+10^k*t)=ndg t+k:=by
  rw[hd]at h1 h2 ⊢;simp only[Yd]at h1;rw[show d+1+k=(d+k)+1 by omega];refine US ?_ ?_
  .rw[Y6,Zt];have:=Zw (10^k) h1;omega
  .rw[show d+k+1=k+(d+1) by omega,Y6];have:=Zw (10^k) h2;rw[Nat.mul_succ]at this;omega
 have e:=AR k (ndg t) (r+10^k*t);rw[<-hn,Yr _ _ (X1 (by have:=Yj (a:=10) (n:=k) ae;omega)),Wr hr,Zp,AQ]at e;exact e
theorem Cg:∀a:Fin 10,biI .and (.d (.int .u64 a.val)) (.d (.int .u64 4294967295))=some (.d (.int .u64 a.val)):=by
 intro a
 match a with
 |0|1|2|3|4|5|6|7|8|9=>rfl
@[simp]theorem aiO{n:Nat}(h:n<10):biI .and (.d (.int .u64 (n:Int))) (.d (.int .u64 4294967295))=some (.d (.int .u64 n)):=Cg ⟨n,h⟩
@[simp]theorem aiA:biI .and (.d (.int .u64 1)) (.d (.int .u64 4294967295))=some (.d (.int .u64 1)):=Cg 1
@[simp]theorem aiB:biI .and (.d (.int .u64 0)) (.d (.int .u64 4294967295))=some (.d (.int .u64 0)):=Cg 0
theorem vn{n:Nat}(h:n<10):CP Y F.gC [.d (.int .u64 1),.d (.int .u64 n)] (.tup [.d (.int .u64 0),.d (.int .u64 n)]):=by refine Ag ?_;have e:(n:Int)/4294967296=0:=aa;simp(disch:=try exact ag)[gC,e];exact⟨[],by simp[bJ,aS]⟩
theorem yI{n:Nat}(h:n<10):CP Y F.gI [.d (.int .u64 1),.d (.int .u64 n)] (.tup [.d (.int .u64 0),.d (.int .u64 n)]):=by refine qo ?_;simp(disch:=try exact ag)[gI];refine cd (vn h) ?_;simp(disch:=try exact ag);exact⟨[],by simp[bJ,aS]⟩
theorem ix0:ixS (.d (.str [48])) (.d (.int .i64 0))=some (.d (.int .u8 48)):=rfl
theorem Dh:nS (.d (.str [48]))=some (I 1):=rfl
theorem xT{s p:LuQ}(b:Bool)(h:p.isPrefixOf s=b):CP Y F.strings_HasPrefix [S s,S p] (B b):=by subst h;exact uq s p
theorem yo{n:Nat}(h:n<10):CP Y F.strings_Repeat [S [48],I n] (S (List.replicate n 48)):=by
 refine pf ?_;by_cases h0:n=0
 .subst h0;simp(disch:=try exact ag)[strings_Repeat];exact fD rfl
 by_cases h1:n=1
 .subst h1;simp(disch:=try exact ag)[strings_Repeat];exact fD rfl
 have h0':¬(n:Int)=0:=aa;have h1':¬(n:Int)=1:=aa;simp(disch:=try exact ag)[strings_Repeat,h0',h1'];refine jD (l:=[]) (h:=[nnQ]) (fun q=>?_) ?_
 .simp(disch:=try exact ag)
 simp(disch:=try exact ag)[Dh];refine cd (yI h) ?_;simp(disch:=try exact ag);refine jD (l:=[]) (h:=[nnQ]) (fun q=>?_) ?_
 .simp(disch:=try exact ag)
 simp(disch:=try exact ag)[Dh,ix0];have hwr:IntKind.wrap .i64 (n:Int)=n:=uo aa aa;refine aT ?_;simp(disch:=try exact ag);refine jD (l:=[.d (.bool true)]) (h:=[nnQ]) (fun q=>?_) ?_
 .simp(disch:=try exact ag)[jo]
 simp(disch:=try exact ag);refine aT ?_;simp(disch:=try exact ag);refine cd (xT false rfl) ?_;simp(disch:=try exact ag);refine cd (xT false rfl) ?_;simp(disch:=try exact ag);refine cd (xT true rfl) ?_;simp(disch:=try exact ag)
 have ht:∀x:Fin 10,List.take x.val (List.replicate 64 (48:UInt8))=List.replicate x.val 48:=bb;exact fD (ht ⟨n,h⟩)
def B6:Nat->Nat->LnQ
 |_,0=>[]
 |n,w+1=>B6 (n/10) w++[n%10]
theorem FH:∀(w n:Nat),(B6 n w).length=w
 |0,_=>rfl
 |w+1,n=>by simp[B6,FH w]
theorem DO:∀(w n:Nat),∀x∈B6 n w,x<10
 |0,_=>by simp[B6]
 | w+1,n=>by
  intro x hx;simp only[B6,W4,List.mem_singleton]at hx;rcases hx with hx|hx
  .exact DO w _ x hx
  .omega
theorem JJ:∀(w n:Nat),dS n w=(B6 n w).map dg
 |0,_=>rfl
 |w+1,n=>by simp[dS,B6,JJ w]
def aa1(a:Nat)(l:LnQ):Nat:=l.foldl (fun a d=>a*10+d) a
theorem Fe:∀(w n:Nat),n<10^w->aa1 0 (B6 n w)=n
 |0,n,h=>by simp at h;subst h;rfl
 | w+1,n,h=>by
  have:=Fe w (n/10) (by rw[Nat.pow_succ]at h;omega);unfold aa1 at this;simp only[aa1,B6,List.foldl_append,this,List.foldl_cons,List.foldl_nil];omega
def f8(x:Nat):D:=.int .u8 (48+x)
theorem WS(n w:Nat):(dS n w).map u8=(B6 n w).map f8:=by rw[JJ,Yy];apply Ym;intro x hx;exact O5 (DO w n x hx)
theorem JZ(k:KL)(h0:Hp)(hh:h0.length=0):∀(r a:LnQ)(s:Nat),(a++r).length<=18->(∀x∈r,x<10)->s<10^a.length ->
  (k (.exit 0) [I (aa1 s r)] []) ->
  lp (mR (CX Y) (lst f8 (a++r)) (I (a++r).length)) [] h0 [I s,I a.length] [] k
 | []=>by
  intro a s hN hx hs hk;refine aj ?_;simp[mR];exact hk
 | x::r=>by
  intro a s hN hx hs hk;simp at hN hx;have hs18:s<10^17:=Z1 hs (Z4 ae aa);simp only[Nat.reducePow]at hs18;have hx1:=hx.1;refine aj ?_;simp(disch:=try exact ag)[mR,f8];have:=JZ k h0 hh r (a++[x]) (s*10+x) bK hx.2 (by simp[Nat.pow_succ];omega) hk;simp at this
  rw[show(48+(x:Int)-48)=x by omega];exact this
theorem abR{n:Nat}(h1:1<=w)(h2:w<=18)(hn:n<10^w):CP Y F.ic [S (dS n w)] (.tup [I n,.d (.pl .nilIface)]):=by
 refine uF ?_;have hl:=FH w n;have hlt:=DO w n;have hh:=Fe w n hn;have he:=WS n w;have hD:=JJ w n;generalize dS n w=L at *;generalize B6 n w=l at *;cases l with
 |nil=>simp at hl;omega
 | cons x l=>
  have hx:=hlt x af
  have hi:ixS (S L) (.d (.int .i64 0))=some (.d (.int .u8 (48+x))):=by
   rw[hD];simp[ixS];have e:=O5 hx;unfold u8 at e;injection e
  have hlen:L.length=w:=by rw[hD];simpa using hl
  have hlw:nS (S L)=some (I w):=by rw[Jq,hlen]
  simp(disch:=try exact ag)[ic,hlw,hi]
  have hcv:∀(k:kkQ),cvB (S L) [] k=k (lst f8 (x::l)) []:=by
   intro k
   have:V.d (.sl L.length (L.map fun b=>.int .u8 b.toNat))=lst f8 (x::l):=by
    unfold lst;rw[hlen,hl,<-he];rfl
   simp only[cvB,this]
  refine jD (l:=[S L]) (h:=[]) (fun q=>?_) ?_
  .simp[show ¬(48+(x:Int)=43) by omega]
  show cvB (S L) [] _
  rw[hcv];simp;refine lo (JZ _ _ rfl (x::l) [] 0 (by simp at hl;simp;omega) hlt af ?_);simp[hi,hh];refine jD (l:=[I n]) (h:=[]) (fun q=>?_) ?_
  .simp[hh,show ¬(48+(x:Int)=45) by omega]
  exact⟨[],by simp[bJ,aS,norm]⟩
theorem Jc:biF .neq (.d (.pl .nilIface)) (.d (.pl .nilIface))=some (.d (.bool false)):=rfl
theorem JY{n:Nat}(h1:1<=w)(h2:w<=18)(hn:n<10^w):CP Y F.strconv_Atoi [S (dS n w)] (.tup [I n,.d (.pl .nilIface)]):=by refine wH ?_;simp[strconv_Atoi];refine cd (abR h1 h2 hn) ?_;simp[Jc];exact⟨[],by simp[bJ,aS,norm]⟩
theorem Ce(a c:V)(b1:Nat×Bk)(l:LnQ):st [(1,.vars [a,c]),b1] 1 (.ptr 0 1 1 2) (lst i9 l)=some [(1,.vars [a,lst i9 l]),b1]:=by simp[st,sto,lst,aw,bS,okV]
theorem wU(k:KL)(h0:Hp)(hh:h0.length=2)(s:D)(b1:Nat×Bk):∀(n:Nat)(l:LnQ),l.length=n->n<1000000000 ->
  (k (.exit 0) [] [(1,.vars [.d s,lst i9 (iN l)]),b1]) ->
  lp (fI (CX Y) (.ptr 0 1 0 2)) [] h0 [] [(1,.vars [.d s,lst i9 l]),b1] k:=by
 intro n
 induction n with
 | zero=>
  intro l hl hn hk;have:l=[]:=Zf hl;subst this;refine aj ?_;simp(disch:=try exact ag)[fI];exact hk
 | succ n ih=>
  intro l hl hn hk;obtain⟨l,x,rfl⟩:∃l' x,l=l'++[x]:=⟨l.dropLast,l.getLast (by intro e;simp[e]at hl),(Xs _).symm⟩;have hl2:l.length=n:=by simpa using hl
  refine aj ?_;simp(disch:=try exact ag)[fI];by_cases hx:x=0
  .subst hx;rw[qW]at hk;simp(disch:=try exact ag)[i9,hh];rw[Ce];simp(disch:=try exact ag)[hh];exact ih l hl2 aa hk
  .rw[yG hx]at hk;simp(disch:=try exact ag)[i9,show ¬(x:Int)=0 by omega];exact hk
def wh(s:Bool)(n:Nat):V:=.agg [.d (.bool s),et n]
theorem k9(s:Bool)(n:Nat)(h:Hp):out (wh s n) (.agg [.d (.bool s),lst i9 (dig Z n)]) h:=by refine⟨h,?_⟩;unfold wh et;simp[bJ,aS]
theorem re{s:Bool}{l:LnQ}(hl:aH Z l)(hn:l.length<1000000000):CP Y F.az [.agg [.d (.bool s),lst i9 l]] (wh (s&&decide (0<val Z l)) (val Z l)):=by
 refine nQ ?_;simp(disch:=try exact ag)[az];refine lo (wU _ _ rfl (.bool s) _ l.length l rfl hn ?_);have ht:lst i9 (iN l)=et (val Z l):=by rw[et,rR ax hl]
 rw[ht]
 have hp:(0<(dig Z (val Z l)).length)↔(0<val Z l):=by
  have:=kJ ax (n:=val Z l);rw[Xj,ne_eq,this];omega
 have ho:∀f:LnQ,okV (lst i9 f)=true:=fun _=>rfl
 generalize hD:dig Z (val Z l)=d9 at *;cases s
 .simp(disch:=try exact ag)[et,hD,ho];subst hD;exact k9 _ _ _
 .simp(disch:=try exact ag)[et,hD,ho];subst hD;simp only[hp];exact k9 _ _ _
theorem sX(s:Bool){n:Nat}(hn:aic n<1000000000):CP Y F.az [.agg [.d (.bool s),et n]] (wh (s&&decide (0<n)) n):=by
 have:=re (s:=s) (cJ ax n) hn
 rwa [iS ax]at this
theorem A9{s:Bool}{n:Nat}(hn:aic n<1000000000):CP Y F.ct [wh s n] (wh (!s&&decide (0<n)) n):=by
 refine nV ?_;simp(disch:=try exact ag)[ct,wh]
 have hf:Mm (some (1,1)) (fun i=>[(0,1),(1,1)][i]?) [V.d (D.bool !s),V.d nPQ] (et n) []=some [V.d (D.bool !s),et n]:=by
  simp[Mm,et,lst,ze]
 rw[hf];simp(disch:=try exact ag);refine cd (sX (!s) hn) ?_ (by simp[aS,bJ,et]);simp(disch:=try exact ag)[wh,et,show ∀f:LnQ,okV (lst i9 f)=true from fun _=>rfl];exact k9 _ _ _
theorem zT(s:Bool)(l:LnQ):Mm (some (1,1)) (fun i=>[(0,1),(1,1)][i]?) [V.d (D.bool s),V.d nPQ] (lst i9 l) []=some [V.d (D.bool s),lst i9 l]:=by simp[Mm,lst,ze]
theorem DF(s:Bool)(n:Nat):Mm (some (1,1)) (fun i=>[(0,1),(1,1)][i]?) [V.d (D.bool s),V.d nPQ] (et n) []=some [V.d (D.bool s),et n]:=zT s _
theorem ve(n:Nat):okV (et n)=true:=rfl
theorem sW(s:Bool){n:Nat}(hw:w<1000000000)(hn:n<Z^w):CP Y F.az [.agg [.d (.bool s),lst i9 (dk w n)]] (wh (s&&decide (0<n)) n):=by
 have:=re (s:=s) (vA w n) (by rw[cT];exact hw)
 rwa [xr w n hn]at this
theorem zi{s:Bool}{n m:Nat}(hn:aic n<1000000000)(hm:aic m<1000000000)(hs:aic (n+m)<1000000000):CP Y F.bQ [wh s n,wh s m] (wh (s&&decide (0<n+m)) (n+m)):=by refine j8 ?_;simp(disch:=try exact ag)[bQ,wh];refine cd (zE hn hm) ?_ (by simp[aS,bJ,et]);simp(disch:=try exact ag);rw[DF];simp(disch:=try exact ag);refine cd (sX s hs) ?_ (by simp[aS,bJ,et]);simp(disch:=try exact ag)[wh,ve];exact k9 _ _ _
theorem zk{s:Bool}(hst:(s == t)=false){n m:Nat}(hn:aic n<1000000000)(hm:aic m<1000000000):CP Y F.bQ [wh s n,wh t m] (if m<=n then wh (s&&decide (0<n-m)) (n-m)else wh (t&&decide (0<m-n)) (m-n)):=by
 refine j8 ?_;have hlt:∀a b:Nat,a-b<Z^aic a:=fun a b=>Zk (Nat.sub_le a b) ((pN ax (n:=a)).1 (Z7 _))
 simp(disch:=try exact ag)[bQ,wh,hst];have h40:(2:Nat)^40=1099511627776:=ae;refine cd (AN aa aa) ?_ (by simp[aS,bJ,et]);by_cases h:m<=n
 .have hc:(0:Int)<=cmp n m:=by unfold cmp;rw[if_neg aa];split<;>omega
  simp(disch:=try exact ag)[hc];refine cd (tB h hn) ?_ (by simp[aS,bJ,et]);simp(disch:=try exact ag);rw[zT];simp(disch:=try exact ag);refine cd (sW s hn (hlt n m)) ?_ (by simp[aS,bJ]);simp(disch:=try exact ag)[wh,ve,h];exact k9 _ _ _
 .have hc:¬(0:Int)<=cmp n m:=by unfold cmp;rw[if_pos aa];omega
  simp(disch:=try exact ag)[hc];refine cd (tB aa hm) ?_ (by simp[aS,bJ,et]);simp(disch:=try exact ag);rw[zT];simp(disch:=try exact ag);refine cd (sW t hm (hlt m n)) ?_ (by simp[aS,bJ]);simp(disch:=try exact ag)[wh,ve,h];exact k9 _ _ _
theorem zq{s:Bool}{n:Nat}(hn:aic n<1000000000):CP Y F.bT [wh s n] (I (if n=0 then 0 else if s then -1 else 1)):=by
 refine mP ?_;have hz:=kJ ax (n:=n);by_cases h:n=0
 .subst h;simp(disch:=try exact ag)[bT,wh,et,j4]
 .have hl:¬(dig Z n).length=0:=fun e=>h (hz.1 (Zf e))
  cases s
  .simp(disch:=try exact ag)[bT,wh,et,h,hl]
  .simp(disch:=try exact ag)[bT,wh,et,h,hl]
def jz(z:Int):V:=wh (decide (z<0)) z.natAbs
theorem C6{s:Bool}{n m:Nat}(h1:s=t)(h2:n=m):wh s n=wh t m:=by rw[h1,h2]
theorem yj{x:Int}(hx:aic x.natAbs<1000000000)(hy:aic y.natAbs<1000000000)(hs:aic (x.natAbs+y.natAbs)<1000000000):CP Y F.bQ [jz x,jz y] (jz (x+y)):=by
 by_cases h:decide (x<0)=decide (y<0)
 .have:=zi (s:=decide (x<0)) hx hy hs;unfold jz;rw[<-h];have e:(x+y).natAbs=x.natAbs+y.natAbs:=by simp only[decide_eq_decide]at h;omega
  have e2:decide (x+y<0)=(decide (x<0)&&decide (0<x.natAbs+y.natAbs)):=by
   simp only[decide_eq_decide]at h;rw[<-Bool.decide_and,decide_eq_decide];omega
  rw[e,e2];exact this
 .have hb:(decide (x<0) == decide (y<0))=false:=by simpa using h
  have:=zk hb hx hy;simp only[decide_eq_decide]at h;by_cases hle:y.natAbs<=x.natAbs
  .rw[if_pos hle]at this;unfold jz;have e:(x+y).natAbs=x.natAbs-y.natAbs:=aa
   have e2:decide (x+y<0)=(decide (x<0)&&decide (0<x.natAbs-y.natAbs)):=by
    rw[<-Bool.decide_and,decide_eq_decide];omega
   rw[e,e2];exact this
  .rw[if_neg hle]at this;unfold jz;have e:(x+y).natAbs=y.natAbs-x.natAbs:=aa
   have e2:decide (x+y<0)=(decide (y<0)&&decide (0<y.natAbs-x.natAbs)):=by
    rw[<-Bool.decide_and,decide_eq_decide];omega
   rw[e,e2];exact this
theorem Cl{x:Int}(hx:aic x.natAbs<1000000000):CP Y F.ct [jz x] (jz (-x)):=by
 have:=A9 (s:=decide (x<0)) hx
 have e:jz (-x)=wh (!decide (x<0)&&decide (0<x.natAbs)) x.natAbs:=by
  unfold jz;refine C6 ?_ aa;rw[<-decide_not,<-Bool.decide_and,decide_eq_decide];omega
 rw[e];exact this
theorem AY{x:Int}(hx:aic x.natAbs<1000000000)(hy:aic y.natAbs<1000000000)(hs:aic (x.natAbs+y.natAbs)<1000000000):CP Y F.eC [jz x,jz y] (jz (x-y)):=by
 refine nT ?_;have h1:=Cl (x:=y) hy;have h2:=yj (x:=x) (y:=-y) hx (by simpa using hy) (by simpa using hs);rw[show x + -y=x-y by omega]at h2;unfold jz wh at h1 h2 ⊢;have hd:decide (-y<0)=decide (0<y):=by rw[decide_eq_decide];omega
 rw[hd,Int.natAbs_neg]at h1 h2;generalize decide (x-y<0)=r at *;generalize(x-y).natAbs=rn at *;simp(disch:=try exact ag)[eC];refine cd h1 ?_ (by simp[aS,bJ,et]);simp(disch:=try exact ag);refine cd h2 ?_ (by simp[aS,bJ,et]);simp(disch:=try exact ag)[ve];exact k9 _ _ _
theorem tn(h1 : -9223372036854775808<z)(h2:z<9223372036854775808):CP Y F.bi [I z] (S (itoa z)):=by refine ov ?_;simp(disch:=try exact ag)[bi];refine cd (DG h1 h2) ?_;exact fD rfl
theorem EJ(z:D):∀n,jv n [z]=List.replicate n z
 |0=>rfl
 |n+1=>by simp[jv,EJ z n,List.replicate_succ]
@[simp] theorem ah2 (s by_:Nat)(z:D)(h:Hp)(i:Int)(k:kkQ)(u:PU k)(h0:0<=i)(hb:by_*i<=281474976710656)(h1:i<=9223372036854775807):
  rh (mkS s by_ [z] h (.d (.int .i64 i)) (.d (.int .i64 i))) k u=rn (bnh h[s]?) (fun y=>k (.ref s (y.1+1) 0 i.toNat i.toNat i.toNat) (h.set s (y.1+1,.data 1 (List.replicate i.toNat z) true false))) .mk:=by unfold rh rn;simp only[mkS];rw[if_pos ⟨h0,Int.le_refl _,af,hb,h1⟩,Dv];simp only[EJ,Zh,List.length_singleton]
@[simp]theorem ag2(s e off len cap tot:Nat):bj (.ref s e off len cap tot)=some (.d (.int .i64 (len:Int))):=id rfl
theorem ju{v r:V}{h:Hp}(e:bJ h r=some (v,h)):out v r h:=⟨h,e⟩
theorem jC{T:kkQ->Prop}{k:kkQ}{u:PU k}(h:T k):rh T k u:=h
theorem cdz{h:Hp}{f:FuncId}{v:V}{k:kkQ}{u:PU k}(hs:aS h args=some (ds,h'))(hc:C f ds v)(hk:k v (if fN v then h else h')):rh (cal C h (.fn f [] []) args) k u:=
 OQ hs hc hk
variable{α:Type}{f:α->D}{o:List α}{h:Hp}{s e n:Nat}{ex fr:Bool}
theorem ixB(hs:h[s]?=some (e,.data 1 (o.map f) ex fr))(hn:o.length=n){i:Nat}(hi:i<n)(k:IntKind):ixV h 1 (.ref s e 0 n n n) (.d (.int k (i:Int)))=some (.ptr s e i n):=by simp only[ixV,aw,hs,if_true];rw[if_pos ⟨by simp[hn],aa,aa⟩];simp
theorem ldB(d:α)(hs:h[s]?=some (e,.data 1 (o.map f) ex fr))(hn:o.length=n){i:Nat}(hi:i<n):ld1 h (.ptr s e i n)=some (.d (f (nth d o i))):=by have hi':i<o.length:=aa;rw[aN d o i hi'];simp only[ld1,aw,hs,if_true,Yz,hn,List.getElem?_map,List.getElem?_eq_getElem hi',Option.map_some]
theorem stB(hs:h[s]?=some (e,.data 1 (o.map f) ex false))(hn:o.length=n){i:Nat}(hi:i<n){x:α}(hx:norm (f x)=f x):st h 1 (.ptr s e i n) (.d (f x))=some (h.set s (e,.data 1 ((o.set i x).map f) ex false)):=by
 have e1:(o.map f).take i++[f x]++(o.map f).drop (i+1)=(o.set i x).map f:=by
  rw[List.map_set,Ya,if_pos bK];simp
 simp only[st,if_true,sto,aw,hs,iH,toD,hx];rw[if_pos ⟨trivial,by simp[hn],bK⟩];simp only[bS,List.length_singleton,e1]
theorem vi(clr:LnQ)(i:Nat)(x0 x:Nat×Bk)(h0 h:Hp):au clr i (x0::h0) (x::h)=(if dw clr i=true then x else(x0.1,.none))::au clr (i+1) h0 h:=by cases x0;cases x;rfl
theorem Hu(clr:LnQ)(i:Nat)(h:Hp):au clr i [] h=h:=by cases h<;>rfl
theorem jm(clr:LnQ)(i:Nat)(x:Nat×Bk)(h:Hp):qk clr i (x::h)=((!dw clr i||offB clr x.2)&&qk clr (i+1) h):=by cases x;rfl
theorem oe(clr:LnQ)(a:Acc)(L:Nat)(c:LdQ)(h:dw clr a.s=true):kH clr (a.v L c)=true:=by
 cases L with
 |zero=>rfl
 |succ n=>exact h
theorem fO(clr:LnQ)(a:Acc)(L:Nat)(c:LdQ)(h:offB clr a.b0=true):offB clr (a.b L c).2=true:=by
 cases L with
 |zero=>exact h
 |succ n=>rfl
theorem mZ(clr:LnQ)(x:D):kH clr (.d x)=true:=rfl
theorem lK(clr:LnQ):offB clr .none=true:=rfl
theorem BE(s:Nat):dw [] s=true:=rfl
theorem vq(t:Nat)(l:LnQ)(s:Nat):dw (t::l) s=(!(Nat.beq t s)&&dw l s):=rfl
theorem beq_lit(a b:Nat):Nat.beq a b=decide (a=b):=by
 by_cases h:a=b
 .subst h;simp[X7]
 .rw[decide_eq_false h];cases hb:Nat.beq a b with
  |false=>rfl
  |true=>exact absurd (Zl hb) h
@[simp]theorem aiQ(n:Nat):V.d (i9 n)=I n:=id rfl
@[simp]theorem aiI(l:LnQ)(h:Hp)(hl:j<l.length):ld1 h (.dptr (l.map i9) j)=some (I ((nth 0 l j:Nat):Int)):=aC i9 0 l h hl
end Go.Vm
