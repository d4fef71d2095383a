/- Lemmas. -/
import Derived.Test.YtbjigngcncfhmaaGreatDoorQVmA
set_option linter.unusedVariables false
set_option linter.unusedSimpArgs false
namespace Go.Vm
open Go Go.Am
variable{r:Value×AH}{H' H1:AH}{x y:Blk}{b s n by_ e0 off sz i m j e tot b':Nat}{P:Program}{dr draw:Bool}{cs cells:List D}{q:V->Hp->Prop}{x' y' w:Value}{b0:Bk}{ws a a' al:LvQ}{env env1:Env}{dst rid base:Option Nat}{v:V}{o:Oper}{ops:Array Oper}{F' G':Nat->Prop}{φ' outs ahZ clr:LnQ}{h' h0:Hp}
section
variable{φ:LnQ}{F G:Nat->Prop}{H:AH}{h:Hp}
theorem jC.all{r:Nat}(N:jC φ F G h H H' r x)(hr:r=H.n):∀c,c<H.n->H'.get c=H.get c:=λc hc=>N.old c hc aa
theorem Fy{P:Program}(I:Inv φ F G H h){s k n by_:Nat}{x':Value}{cs:List D}{vs:LvQ}{len:Nat}{pre:List D}{wpre:LvQ}{q:V->Hp->Prop}(hn:0<n)(hr:RDs F H (pre++cs) (wpre++vs))
  (hq:new h s (.data n (pre++cs) false false) λe h=>q (.ref s e 0 len len (pre++cs).length) h)
  (hA:bU P H n by_ x' k vs=some (.slice (some ⟨H.n,0,none⟩) len len,H.push (jp H.n n (wpre++vs)))) {U:Prop}:bV U φ F G H h q (bU P H n by_ x' k vs):=by obtain⟨e,b0,hs,hk⟩:=kP hq;have N:jC φ F G h H (H.push (jp H.n n (wpre++vs))) H.n (jp H.n n (wpre++vs)):=jC.push I rfl rfl;obtain⟨I',S',_,hv⟩:=Do I hs (ex:=false) (n:=n) hr N rfl rfl rfl (λ_=>rfl) hn;exact⟨_,_,_,_,_,_,hA,hk,I',S',hv 0 len len _ rfl,λ_=>N.all rfl⟩
theorem Md(w:WF H)(hx:H.get b=some x)(h1:x.st=1)(pos off n:Nat)(cells:LvQ):
  Tch H (((H.set b {x with shared:=true,ver:=x.ver+1}).kill (beyond b x.fam pos)).push (mL x off n cells)) x H.n (mL x off n cells):=by
 have w1:WF (H.set b {x with shared:=true,ver:=x.ver+1}):=w.set hx (w.fam b x hx);have hb:=AH.get_lt hx;refine⟨ac,?_,?_,?_,rfl,rfl,?_⟩
 .intro c y hy;have hc:=AH.get_lt hy;rw[AH.get_push_old (by trivial),AH.get_kill,AH.get_set hx];by_cases hcb:c=b
  .subst hcb;rw[hx]at hy;cases hy;rw[if_pos rfl];refine⟨_,rfl,.inr ⟨rfl,h1,?_,?_⟩⟩<;>dsimp only
   .split
    .simp
    grind
   .split<;>rfl
  .rw[if_neg hcb,hy];refine⟨_,rfl,?_⟩;dsimp only;split
   .rename_i hk;simp only[beyond,Z7,beq_iff_eq,decide_eq_true_eq]at hk;exact .inr ⟨hk.1.1.1,hk.1.2,ac,rfl⟩
   simp
 .intro c y hc hy;have:=AH.get_lt hy;simp at this;omega
 .simp[AH.get_push_new,AH.kill]
 ·have:=(w1.kill (beyond b x.fam pos)).push (x:=mL x off n cells) (by
   show x.fam<=H.n
   have:=w.fam b x hx;omega)
  omega
theorem J3(I:Inv φ F G H h)(hn:0<n){x:V}{k:Nat}(hq:apC dr s n by_ x k cs h q)(hx:RV φ F H h x x'){vs:LvQ}(hr:RDs F H cs vs):
  bV (dr=true) φ F G H h q (bU P H n by_ x' k vs):=by
 unfold apC at hq;split at hq
 .rename_i h0;subst h0
  have fin:(∃a b c,x'=.slice (some ⟨a,b,none⟩) c c∨∃d,x'=.slice (some ⟨a,b,none⟩) c d∧c<=d)∨x'=.slice none 0 0->q x h->bV (dr=true) φ F G H h q (bU P H n by_ x' 0 vs):=by
   intro hs hq
   have:bU P H n by_ x' 0 vs=some (x',H):=by
    rcases hs with⟨a,b,c,rfl|⟨d,rfl,hd⟩⟩|rfl
    .simp[bU]
    .have:¬d<c:=aa
     grind[bU]
    .rfl
   rw[this];exact bV.pure I hq hx
  split at hq
  .simp only[RV,RD]at hx;refine fin ?_ hq;rcases hx with⟨rfl,rfl,e|⟨c,o,cap,rfl,_⟩⟩|⟨c,o,cap,us,m,rfl,_,hc,_⟩
   .grind
   .grind
   grind
  .grind[RV,RD]
  .grind[RV]
  .grind[RV]
  trivial
 .rename_i hk0;split at hq
  .split at hq
   .rename_i hb;simp only[RV,RD]at hx;obtain⟨rfl,_⟩:=hx;exact Fy (P:=P) I (pre:=[]) (wpre:=[]) hn (by trivial) (by trivial) (by grind[bU])
   trivial
  .rename_i m;split at hq
   .rename_i hb;obtain⟨rfl,hb⟩:=hb;simp only[RV]at hx;obtain⟨c,o,y,rfl,hF,hy,hy1,ho,hfit⟩:=hx;refine Fy (P:=P) I (pre:=[]) (wpre:=[]) hn (by trivial) (by trivial) ?_;simp only[bU];rw[if_neg aa,if_neg hk0,if_neg aa,if_pos (by grind),hy];simp only[Wq,Nat.add_zero,List.take_zero,List.nil_append,Zk];rw[if_pos ⟨hy1,aa⟩,if_pos]
    grind
   trivial
  .rename_i s' e off len cap tot;split at hq
   .rename_i m old ex fr hg;split at hq
    .rename_i hc;obtain⟨rfl,ht,hlc,hcap,hcs⟩:=hc;obtain⟨rfl,y,hy,hy1,hd,hex,hez,hm,hff,hwr⟩:=tj I hx hg ht;have hs':=eA ac hg;have hyl:=hd.length;have hvl:=hr.length
     have hlm:off+len*m<=old.length:=by
      have:=Zs m hlc;omega
     split at hq
     .rename_i hroom;split at hq
      .trivial
      .rename_i hfd;simp only[X9,not_or,Bool.not_eq_true]at hfd;obtain⟨rfl,rfl⟩:=hfd;have hmul:len*m+k*m=(len+k)*m:=(Nat.add_mul ..).symm;have hle2:=Zs m hroom;obtain⟨H',hw,I',S'⟩:=Iu I hg hr (off:=off+len*m) aa;refine⟨.ref s' e off (len+k) cap tot,_,_,_,.slice (some ⟨φ.getD s' 0,off,none⟩) (len+k) cap,H',?_,?_,I',S',?_,λe=>by cases e⟩
       .simp only[bU];rw[if_neg aa,if_neg hk0,if_pos hroom,hw]
       .have:off+len*m+cs.length=off+(len+k)*m:=aa
        grind
       .have:=RV.mono S'.leF S'.sl _ _ hx;simp only[RV]at this ⊢;exact⟨⟨_,_,rfl⟩,this.2.1,λm hm=>⟨(this.2.2 m hm).1,λ_=>by first|rfl|trivial⟩⟩
     .rename_i hroom;split at hq
      .rename_i hby
       have hA:∀z,(if y.exact=true∨(y.esz=m∧off+cap*m<y.cells.length)then some (Value.slice (some ⟨H.n,0,none⟩) (len+k) (len+k),H.push (jp H.n m ((y.cells.drop off).take (len*m)++vs)))
         else if y.wr=true∧y.esz=m∧off+cap*m=y.cells.length∧vs.all okCell=true then
          some (Value.slice (some ⟨H.n,0,none⟩) (len+k) (len+k),(((H.set (φ.getD s' 0) {y with shared:=true,ver:=y.ver+1}).kill (beyond (φ.getD s' 0) y.fam (y.start+off+len*m))).push (mL y off m ((y.cells.drop off).take (len*m)++vs))))
         else none)=some z->bU P H m by_ (.slice (some ⟨φ.getD s' 0,off,none⟩) len cap) k vs=some z:=by
        intro z hz;simp only[bU];rw[if_neg aa,if_neg hk0,if_neg hroom,if_pos hby,hy];simp only;rw[if_pos ⟨hy1,aa⟩];exact hz
       have hpre:RDs F H ((old.drop off).take (len*m)++cs) ((y.cells.drop off).take (len*m)++vs):=((hd.drop off).take _).append hr;have hpl:((old.drop off).take (len*m)).length=len*m:=by rw[Zr,Yq];omega
       split at hq
       .rename_i hexx
        refine Fy (P:=P) I (len:=len+k) hn hpre (by
         have:((old.drop off).take (len*m)++cs).length=len*m+cs.length:=by rw[List.length_append,hpl]
         rw[this];exact hq) (hA _ ?_)
        rw[if_pos (.inl (by rw[hex (.inr hexx),hexx]))]
       .rename_i hexx;have hexx:ex=false:=by cases ex<;>simp_all
        subst hexx;split at hq
        .trivial
        .rename_i hfd;simp only[X9,not_or,Bool.not_eq_true]at hfd;obtain⟨rfl,rfl⟩:=hfd;split at hq
         .rename_i hend;have hex:=hex (.inl rfl);have hesz:y.esz=m:=(hez rfl).resolve_left (by rw[hex];simp);have T:=Md I.wf hy hy1 (y.start+off+len*m) off m ((y.cells.drop off).take (len*m)++vs);have hblen:((old.drop off).take (len*m)++cs).length=len*m+cs.length:=by rw[List.length_append,hpl]
          obtain ⟨I',S'⟩:=I.touch hs' rfl hy hy1 T (.inr (Z8 _)) (b':=.data m ((old.drop off).take (len*m)++cs) false false) (m:=old.length) (m':=len*m+cs.length) rfl (by grind[sv]) aa (λe=>by omega)
           λhl hsl=>⟨_,T.get,rfl,RDs.mono hl _ _ hpre,λ_=>rfl,λ_=>.inr rfl,hm,λe=>absurd e ac,λ_=>rfl⟩
          refine⟨_,_,_,_,.slice (some ⟨H.n,0,none⟩) (len+k) (len+k),_,hA _ ?_,hq,I',S',?_,λe=>by cases e⟩
          .rw[if_neg,if_pos ⟨hwr rfl,hesz,aa,hr.okCells⟩];rintro(e|e)
           .grind
           .omega
          .simp only[RV];have hsl:=bj hs';have hg':(bK h s' e (.data m ((old.drop off).take (len*m)++cs) false false))[s']?=some (e,.data m ((old.drop off).take (len*m)++cs) false false):=by rw[pE hsl,if_pos rfl]
           refine⟨⟨_,_,rfl⟩,by grind[ep],λm' hm'=>?_⟩;rw[dM hg']at hm';cases hm';exact⟨aa,λ_=>by rw[dh (by grind[Inv.len]),if_pos rfl]⟩
         trivial
      trivial
    trivial
   trivial
  trivial
theorem abE(I:Inv φ F G H h)(hn:0<n){x y:V}(hq:apV dr s n by_ x y h q)(hx:RV φ F H h x x')(hy:RV φ F H h y y'):
  ∃k vs,nf H n y'=some (k,vs)∧bV (dr=true) φ F G H h q (bU P H n by_ x' k vs):=by
 unfold apV at hq;split at hq
 .rename_i t;split at hq
  .rename_i h1;subst h1;rw[ti]at hy;subst hy;refine⟨t.length,t.map λb=>.int .u8 b.toNat,by rfl,J3 I hn hq hx ?_⟩
   have:∀l:LuQ,RDs F H (l.map λb=>D.int .u8 b.toNat) (l.map λb=>Value.int .u8 b.toNat):=by
    intro l
    induction l with
    |nil=>rfl
    |cons b l ih=>grind[RDs,RD]
   grind
  trivial
 grind[BY,J3]
theorem SN(I:Inv φ F G H h){x:V}{k:Nat}{vs:List V}(hc:rN h x=some (k,vs))(hk:0<k)(hx:RV φ F H h x x'):vs.length=k∧∃ws,nf H 1 x'=some (k,ws)∧RVs φ F H h vs ws:=by
 unfold rN at hc;split at hc
 .rename_i s e off len cap tot;split at hc
  .rename_i cs hg;split at hc
   .rename_i ht;cases hc
    have hw:x'=.slice (some ⟨φ.getD s 0,off,none⟩) k cap:=by
     simp only[RV]at hx;exact(hx.2.2 cs.length (by rw[hg];rfl)).2 ht.1
    subst hw;obtain⟨y,hy,hy1,_,_,hd⟩:=I.blk s e _ (eA ac hg);have hl:=hd.length;refine⟨by rw[Zr,Yq];omega,(y.cells.drop off).take k,?_,(hd.drop off).take _⟩;simp only[nf];rw[if_neg aa,kK hy hy1 aa,Ya];rfl
   .cases hc
  .cases hc
 .cases hc
theorem Jc(I:Inv φ F G H h)(hs:h[s]?=some (e0,b0)){cs:List V}(hr:RVs φ F H h cs ws){r:Nat}(N:jC φ F G h H H' r x)(hw:x.wr=true)(hx:x.cells=ws)(hxe:x.exact=true∨x.esz=1)(len:Nat):
  Inv (φ.set s r) F G H' (h.set s (e0+1,.vars cs))∧Stp G φ F H h (φ.set s r) F H' (h.set s (e0+1,.vars cs))∧RV (φ.set s r) F H' (h.set s (e0+1,.vars cs)) (.ref s (e0+1) 0 len len cs.length) (.slice (some ⟨r,0,none⟩) len len):=by
 obtain⟨I',S'⟩:=I.new hs N (b:=.vars cs) λhl hsl=>⟨_,N.get,N.st,hw,hxe,by rw[hx];exact RVs.mono hl hsl _ _ hr⟩
 refine⟨I',S',?_⟩;obtain⟨g1,g2⟩:=pu (b:=.vars cs) hs;have hsl:=bj hs;simp only[RV];refine⟨⟨_,_,rfl⟩,aa,λm hm=>?_⟩;rw[g1]at hm;cases hm;exact⟨Z8 _,λ_=>by rw[dh (by rw[I.len];exact hsl),if_pos rfl]⟩
theorem abD(I:Inv φ F G H h){x y:V}(hq:apW dr s n by_ x y h q)(hx:RV φ F H h x x')(hy:RV φ F H h y y'):
  ∃k vs,nf H n y'=some (k,vs)∧bV (dr=true) φ F G H h q (bU P H n by_ x' k vs):=by
 unfold apW at hq;split at hq
 .rename_i k vs hv;split at hq
  .rename_i hc;obtain⟨hok,hk,rfl⟩:=hc;obtain⟨hvl,ws,hws,hr⟩:=SN I hv hk hy;have hwl:=hr.length;refine⟨k,ws,hws,?_⟩;split at hq
   .split at hq
    .rename_i hb;simp only[RV,RD]at hx;obtain⟨rfl,_⟩:=hx;obtain⟨e,b0,hs,hq⟩:=kP hq;have N:jC φ F G h H (H.push (jp H.n 1 ws)) H.n (jp H.n 1 ws):=jC.push I rfl rfl;obtain⟨I',S',hv'⟩:=Jc I hs hr N rfl rfl (.inr rfl) k;refine⟨_,_,_,_,_,_,?_,hq,I',S',hv',λ_=>N.all rfl⟩;simp only[bU];rw[if_neg aa,if_pos hb]
    .trivial
   .rename_i s' e off len cap tot;split at hq
    .rename_i old hg;split at hq
     .rename_i hcc;obtain⟨rfl,ht,hlc,hcap⟩:=hcc
      have hw:x'=.slice (some ⟨φ.getD s' 0,off,none⟩) len cap:=by
       simp only[RV]at hx;exact(hx.2.2 old.length (by rw[hg];rfl)).2 ht
      subst hw;have hs':=eA ac hg;obtain⟨z,hz,hz1,hwr,hfit,hd⟩:=I.blk s' e _ hs';have hzl:=hd.length;split at hq
      .rename_i hroom;obtain⟨H',hw,I',S'⟩:=SH I hg hr (off:=off+len) aa hok;rw[hvl]at I' S';refine⟨_,_,_,_,.slice (some ⟨φ.getD s' 0,off,none⟩) (len+k) cap,H',?_,hq,I',S',?_,λe=>by cases e⟩
       .simp only[bU];rw[if_neg aa,if_neg aa,if_pos hroom,Ya,hw]
       .have:=RV.mono S'.leF S'.sl _ _ hx;simp only[RV]at this ⊢;exact⟨⟨_,_,rfl⟩,this.2.1,λm hm=>⟨(this.2.2 m hm).1,λ_=>by first|rfl|trivial⟩⟩
      .rename_i hroom;split at hq
       .rename_i hg2;obtain⟨hby,hend,hlt2⟩:=hg2;have hpre:RVs φ F H h ((old.drop off).take len++vs) ((z.cells.drop off).take len++ws):=((hd.drop off).take _).append hr;have hpl:((old.drop off).take len++vs).length=len+k:=by rw[List.length_append,Zr,Yq];omega
        have hA:∀r,(if z.exact=true∨(z.esz=1∧off+cap*1<z.cells.length)then some (Value.slice (some ⟨H.n,0,none⟩) (len+k) (len+k),H.push (jp H.n 1 ((z.cells.drop off).take (len*1)++ws)))
          else if z.wr=true∧z.esz=1∧off+cap*1=z.cells.length∧ws.all okCell=true then
           some (Value.slice (some ⟨H.n,0,none⟩) (len+k) (len+k),(((H.set (φ.getD s' 0) {z with shared:=true,ver:=z.ver+1}).kill (beyond (φ.getD s' 0) z.fam (z.start+off+len*1))).push (mL z off 1 ((z.cells.drop off).take (len*1)++ws))))
          else none)=some r->bU P H 1 by_ (.slice (some ⟨φ.getD s' 0,off,none⟩) len cap) k ws=some r:=by
         intro r hr2;simp only[bU];rw[if_neg aa,if_neg aa,if_neg hroom,if_pos hby,hz];simp only;rw[if_pos ⟨hz1,aa⟩];exact hr2
        by_cases hex:z.exact=true
        .have N:jC φ F G h H (H.push (jp H.n 1 ((z.cells.drop off).take (len*1)++ws))) H.n (jp H.n 1 ((z.cells.drop off).take (len*1)++ws)):=jC.push I rfl rfl;obtain⟨I',S',hv'⟩:=Jc I hs' hpre N rfl (by rw[Ya];rfl) (.inr rfl) (len+k);rw[hpl]at hv';exact⟨_,_,_,_,_,_,hA _ (by rw[if_pos (.inl hex)]),hq,I',S',hv',λe=>by cases e⟩
        .have hesz:z.esz=1:=hfit.resolve_left hex;have T:=Md I.wf hz hz1 (z.start+off+len*1) off 1 ((z.cells.drop off).take (len*1)++ws)
         obtain ⟨I',S'⟩:=I.touch hs' trivial hz hz1 T (.inr (Z8 _)) (b':=.vars ((old.drop off).take len++vs)) (m:=old.length) (m':=len+k) rfl (by simp only[sv];rw[hpl]) aa (λe=>absurd e aa)
          λhl hsl=>⟨_,T.get,rfl,rfl,.inr rfl,by
           have:=RVs.mono hl hsl _ _ hpre;rw[show(z.cells.drop off).take len=(z.cells.drop off).take (len*1) by rw[Ya]]at this;exact this⟩
         have hsl:=bj hs';have hg':(bK h s' e (.vars ((old.drop off).take len++vs)))[s']?=some (e,.vars ((old.drop off).take len++vs)):=by rw[pE hsl,if_pos rfl]
         obtain⟨I2,S2⟩:=I'.renew hg';have eh:(bK h s' e (.vars ((old.drop off).take len++vs))).set s' (e+1,.vars ((old.drop off).take len++vs))=h.set s' (e+1,.vars ((old.drop off).take len++vs)):=by simp[bK]
         rw[eh]at I2 S2;refine⟨_,_,_,_,.slice (some ⟨H.n,0,none⟩) (len+k) (len+k),_,hA _ ?_,hq,I2,S'.trans S2,?_,λe=>by cases e⟩
         .rw[if_neg,if_pos ⟨hwr,hesz,aa,EQ hok hr⟩];rintro(e|e)
          .exact hex e
          .omega
         .simp only[RV];have hg2:(h.set s' (e+1,.vars ((old.drop off).take len++vs)))[s']?=some (e+1,.vars ((old.drop off).take len++vs)):=by simp[hsl]
          refine⟨⟨_,_,rfl⟩,by simp[ep,hsl],λm' hm'=>?_⟩;rw[dM hg2]at hm';simp only[sv,Z9]at hm';exact⟨aa,λ_=>by rw[dh (by rw[I.len];exact hsl),if_pos rfl]⟩
       .trivial
     .trivial
    .trivial
   .trivial
  .trivial
 .trivial
end
section
variable{φ:LnQ}{F G:Nat->Prop}{H:AH}{h:Hp}
theorem foldl_set(off:Nat):∀(l:LvQ)(k:Nat)(cs:Array Value),off+k+l.length<=cs.size ->
  ((l.zipIdx k).foldl (λ(cs:Array Value)(x:Value×Nat)=>cs.setIfInBounds (off+x.2) x.1) cs).toList=cs.toList.take (off+k)++l++cs.toList.drop (off+k+l.length)
 |[],k,cs,_=>by simp
 | v::l,k,cs,hb=>by
  simp only[List.zipIdx_cons,List.foldl_cons];simp only[List.length_cons]at hb;rw[foldl_set off l (k+1) _ (by grind)];have hk:off+k<cs.toList.length:=by simp;omega
  rw[Array.toList_setIfInBounds]
  have e1:(cs.toList.set (off+k) v).take (off+(k+1))=cs.toList.take (off+k)++[v]:=by
   rw[show off+(k+1)=(off+k)+1 by omega,Xb,List.take_set_of_le (Z8 _),List.getElem?_set_self hk];rfl
  have e2:(cs.toList.set (off+k) v).drop (off+(k+1)+l.length)=cs.toList.drop (off+k+(l.length+1)):=by
   rw[List.drop_set_of_lt aa,show off+(k+1)+l.length=off+k+(l.length+1) by omega]
  simp_all
theorem Sb(place:Nat->Option (Nat×Nat))(cells:Array Value)(i:Nat)(v:Value)(rest:List (Nat×Value))(hp:place i=some (off,sz))(hs:v.cells.size=sz)(hb:off+sz<=cells.size):
  ∃c',c'.toList=cells.toList.take off++v.cells.toList++cells.toList.drop (off+sz)∧Instr.fill place cells ((i,v)::rest)=Instr.fill place c' rest:=by
 refine⟨(v.cells.toList.zipIdx.foldl (λ(cs:Array Value)(x:Value×Nat)=>cs.setIfInBounds (off+x.2) x.1) cells),?_,?_⟩
 .simp_all[foldl_set]
 grind[Instr.fill,Array.toList_zipIdx]
def PsR(φ:LnQ)(F:Nat->Prop)(H:AH)(h:Hp):List (Nat×V)->List (Nat×Value)->Prop
 |[],l=>l=[]
 |(i,v)::r,l=>∃w q,l=(i,w)::q∧RV φ F H h v w∧PsR φ F H h r q
theorem Ah(place:Nat->Option (Nat×Nat)):∀{ps:List (Nat×V)}{qs:List (Nat×Value)}{cs rs:List V}{cells:Array Value},pf place cs ps=some rs->PsR φ F H h ps qs->RVs φ F H h cs cells.toList ->
  ∃r,Instr.fill place cells qs=some r∧RVs φ F H h rs r.toList
 | [],_,cs,rs,cells,hf,hp,hc=>by
  simp only[PsR]at hp;subst hp;simp only[pf,Z9]at hf;subst hf;exact⟨cells,rfl,hc⟩
 | (i,v)::ps,_,cs,rs,cells,hf,hp,hc=>by
  simp only[PsR]at hp;obtain⟨w,q,rfl,hv,hq⟩:=hp;unfold pf at hf;split at hf
  .cases hf
  .rename_i off sz hpl;split at hf
   .cases hf
   .rename_i vs hvs;split at hf
    .rename_i hb;have hr:=yR hvs hv;have h1:=hr.length;have h2:=hc.length;simp only[Array.length_toList]at h1 h2;obtain⟨c',hc',hfill⟩:=Sb place cells i w q hpl aa aa;rw[hfill];refine Ah place hf hq ?_;rw[hc'];have:off+sz=off+vs.length:=aa
     grind[RVs.append,RVs.take,RVs.drop]
    trivial
theorem abi{P:Program}{t:TypeId}{fs:List (Nat×Nat)}{gs:Array Field}{z:List D}(hu:P.underlying t=some (.struct gs))(hg:gs.toList.map (λf=>(f.offset,szO P f.type))=fs.map λp=>(p.1,some p.2))
  {zv:Value} (hz:iH P t=some zv) (hpl:plain zv=true) (hzz:zv.cells.toList.map jA=z) (hok:∀c∈zv.cells.toList,okZ c) {ps:List (Nat×V)} {qs:Array (Nat×Value)} (hp:PsR φ F H h ps qs.toList)
  {v:V} (hv:bld fs z ps=some v):∃w,yT P t qs=some w∧RV φ F H h v w:=by
 unfold bld at hv;split at hv
 .rename_i l hl;cases hv
  have hpl2:(λi:Nat=>fs[i]?)=λi:Nat=>(gs.map λf=>(f.offset,(szO P f.type).getD 0))[i]?:=by
   funext i;have:=congrArg (·[i]?) hg;simp only[List.getElem?_map]at this;rw[<-Array.getElem?_toList,Array.toList_map,List.getElem?_map];cases h1:fs[i]? with
   | none=>
    cases h2:gs.toList[i]? with
    |none=>rfl
    |some f=>grind
   | some p=>
    grind
  have hall:gs.all (λf=>(szO P f.type).isSome)=true:=by
   rw[<-Array.all_toList,Z1];intro f hf;obtain⟨i,hi⟩:=List.getElem?_of_mem hf;have:=congrArg (·[i]?) hg;simp only[List.getElem?_map,hi,Option.map_some]at this;cases h1:fs[i]? with
   |none=>grind
   | some p=>
    grind
  have hzr:RVs φ F H h (z.map .d) zv.cells.toList:=by rw[<-hzz];exact RVs.ofD (p9 hok)
  grind[Ah,RV,yT]
 trivial
theorem XT{P:Program}{t e:TypeId}{len n:Nat}{z:List D}(hu:P.underlying t=some (.array len e))(hn:szO P e=some n)
  {zv:Value} (hz:iH P t=some zv) (hpl:plain zv=true) (hzz:zv.cells.toList.map jA=z) (hok:∀c∈zv.cells.toList,okZ c) {ps:List (Nat×V)} {qs:Array (Nat×Value)} (hp:PsR φ F H h ps qs.toList)
  {v:V} (hv:aea n z ps=some v):∃w,yT P t qs=some w∧RV φ F H h v w:=by
 unfold aea at hv;split at hv
 .rename_i l hl;cases hv;have hzr:RVs φ F H h (z.map .d) zv.cells.toList:=by rw[<-hzz];exact RVs.ofD (p9 hok)
  grind[Ah,RV,yT]
 trivial
theorem J9(l:LvQ)(k:Nat):df l ((k+1)*l.length)=l++df l (k*l.length):=by
 apply Yk;intro i;unfold df;by_cases hi:i<l.length
 .grind[Yd]
 .rw[List.getElem?_append_right aa,List.getElem?_map,List.getElem?_map];have e:(k+1)*l.length=k*l.length+l.length:=by rw[Nat.add_mul];omega
  by_cases h2:i<(k+1)*l.length
  .rw[List.getElem?_range h2,List.getElem?_range aa,Option.map_some,Option.map_some,Nat.mod_eq_sub_mod aa]
  .rw[List.getElem?_eq_none (by grind),List.getElem?_eq_none (by grind)]
theorem tL{l:LvQ}(hok:∀c∈l,okZ c):∀k,RDs F H (gK k (l.map jA)) (df l (k*l.length))
 |0=>by simp[gK,df,RDs]
 | k+1=>by
  rw[J9];exact(p9 hok).append (tL hok k)
theorem LW{P:Program}{t e:TypeId}{len:Nat}{z:List D}(hu:P.underlying t=some (.slice e))
  {zv:Value} (hn:szO P e=some zv.cells.size) (hz:iH P e=some zv) (hpl:plain zv=true) (hzz:zv.cells.toList.map jA=z) (hok:∀c∈zv.cells.toList,okZ c) {ps:List (Nat×V)} {qs:Array (Nat×Value)} (hp:PsR φ F H h ps qs.toList)
  {vs:List V} (hv:pf (λi=>some (i*z.length,z.length)) ((gK len z).map .d) ps=some vs) (h0:0<z.length) (hl:len*z.length<=16777216) (rid:Option Nat) :
  ∃ ws,RVs φ F H h vs ws∧gW P H rid t len qs=match mkB H rid ws with
   |some (b,H')=>some (.slice (some ⟨b,0,none⟩) len len,H')
   |none=>none:=by
 have hzl:z.length=zv.cells.size:=by rw[<-hzz];simp
 have hzr:RVs φ F H h ((gK len z).map .d) (df zv.cells.toList (len*zv.cells.size)).toArray.toList:=by
  have:=tL (F:=F) (H:=H) hok len;rw[hzz]at this;simpa using RVs.ofD (φ:=φ) (h:=h) this
 rw[hzl]at hv h0 hl;obtain⟨r,hr,hrv⟩:=Ah _ hv hp hzr
 grind[gW]
theorem Aj(place:Nat->Option (Nat×Nat)):∀{ps:List (Nat×V)}{cs rs:List V},pf place cs ps=some rs->rs.length=cs.length
 |[],cs,rs,hf=>by grind[pf]
 | (i,v)::ps,cs,rs,hf=>by
  unfold pf at hf;split at hf
  .cases hf
  .split at hf
   .cases hf
   .split at hf
    .rename_i hb;rw[Aj place hf]
     grind
    trivial
theorem Ch(z:List D):∀n,(gK n z).length=n*z.length
 |0=>by simp[gK]
 |n+1=>by simp only[gK,List.length_append,Ch z n,Nat.add_mul];omega
theorem Cb:∀{vs:List V}{h h':Hp}{xs:List D},jG h vs=some (xs,h')->xs.length=vs.length
 |[],_,_,_,ht=>by cases ht;rfl
 | v::vs,h,h',xs,ht=>by
  unfold jG at ht;split at ht
  .split at ht
   .rename_i hx;cases ht;simp[Cb hx]
   trivial
  trivial
theorem HP{P:Program}(I:Inv φ F G H h){rid:Option Nat}(U:GY G H rid){t e:TypeId}{len:Nat}{z:List D}(hu:P.underlying t=some (.slice e))
  {zv:Value} (hn:szO P e=some zv.cells.size) (hz:iH P e=some zv) (hpl:plain zv=true) (hzz:zv.cells.toList.map jA=z) (hok:∀c∈zv.cells.toList,okZ c) {ps:List (Nat×V)} {qs:Array (Nat×Value)} (hp:PsR φ F H h ps qs.toList)
  {vs:List V} (hvs:pf (λi=>some (i*z.length,z.length)) ((gK len z).map .d) ps=some vs) (hc:0<z.length∧len*z.length<=16777216) {xs:List D} {h1:Hp} (hx:jG h vs=some (xs,h1)) :
  ∃F1 r H' ws,tK G φ F H h h1 F1∧RDs F1 H xs ws∧xs.length=len*z.length∧jC φ F1 G h1 H H' r (fresh r ws)∧gW P H rid t len qs=some (.slice (some ⟨r,0,none⟩) len len,H'):=by obtain⟨ws,hr,hb⟩:=LW hu hn hz hpl hzz hok hp hvs hc.1 hc.2 rid;obtain⟨F1,S1,r1⟩:=tS I hx hr;obtain⟨r,H',hm,N⟩:=Jg S1.1 U ws;refine⟨F1,r,H',ws,S1,r1,?_,N,by rw[hb,hm]⟩;rw[Cb hx,Aj _ hvs,List.length_map,Ch]
theorem Vu{P:Program}(I:Inv φ F G H h){rid:Option Nat}(U:GY G H rid){t e:TypeId}{len:Nat}{z:List D}(hu:P.underlying t=some (.slice e))
  {zv:Value} (hn:szO P e=some zv.cells.size) (hz:iH P e=some zv) (hpl:plain zv=true) (hzz:zv.cells.toList.map jA=z) (hok:∀c∈zv.cells.toList,okZ c) {ps:List (Nat×V)} {qs:Array (Nat×Value)} (hp:PsR φ F H h ps qs.toList)
  {k:V->Hp->Prop} (hk:dv len z ps h k):bV False φ F G H h k (gW P H rid t len qs):=by
 unfold dv at hk;split at hk
 .rename_i vs hvs;split at hk
  .rename_i hc;split at hk
   .rename_i xs h1 hx;obtain⟨F1,r,H',ws,S1,r1,hlen,N,hb⟩:=HP I U hu hn hz hpl hzz hok hp hvs hc hx;rw[hb];obtain⟨I2,S2⟩:=S1.1.newData N;refine⟨_,_,_,_,.slice (some ⟨r,0,none⟩) len len,H',rfl,hk,I2,S1.2.trans S2,?_,False.elim⟩;simp only[RV,RD];by_cases h0:len=0
    .subst h0;refine .inl ⟨by first|rfl|trivial,Zo aa,.inr ⟨r,0,0,rfl,_,N.get,by simp[fresh]⟩⟩
    .refine .inr ⟨r,0,len,ws,z.length,rfl,aa,Z8 _,hc.1,hlen,.inr rfl,?_,RDs.mono S2.leF _ _ r1,_,N.get,.inl rfl⟩;have:=r1.length;rw[kK N.get rfl (by show 0+xs.length<=ws.length;omega)]
     show some ((ws.drop 0).take xs.length)=_
     grind
   trivial
  trivial
 trivial
theorem XF{P:Program}(I:Inv φ F G H h){t e ty:TypeId}{ts:Array TypeId}(hu:(ts[0]?).bind P.underlying=some (.slice e))
  {zv:Value} {z:List D} (hn:szO P e=some zv.cells.size) (hz:iH P e=some zv) (hpl:plain zv=true) (hzz:zv.cells.toList.map jA=z) (hok:∀c∈zv.cells.toList,okZ c) {x:V} {x':Value} {k:V->Hp->Prop}
  (hk:ad2 h z x k) (hx:RV φ F H h x x'):bV False φ F G H h k (bC P H .clear ts ty [x']):=by
 unfold ad2 at hk;split at hk
 .rename_i s e' off len cap tot;split at hk
  .rename_i n cs ex fr hg;split at hk
   .rename_i hc;obtain⟨hl,hzl,hn0,rfl,ht,hle⟩:=hc;obtain⟨rfl,y,hy,hy1,hd,hex,hesz,_⟩:=tj I hx hg ht
    have hr:RDs F H (gK len z) (df zv.cells.toList (len*zv.cells.size)):=by
     have:=tL (F:=F) (H:=H) hok len;rw[hzz]at this;simpa using this
    obtain⟨H',hw,I2,S2⟩:=Iu I hg hr hle
    have hs0:0<zv.cells.size:=by
     have:z.length=zv.cells.size:=by rw[<-hzz];simp
     omega
    refine⟨_,_,_,_,undef,H',?_,hk,I2,S2,?_,False.elim⟩
    .simp only[bC,hu,hn,hz];rw[if_pos ⟨hpl,by first|rfl|trivial,hs0⟩,if_neg aa,hw];rfl
    .simp only[RV];exact⟨[],rfl,rfl⟩
   trivial
  trivial
 trivial
theorem aa9{P:Program}(I:Inv φ F G H h){e ty:TypeId}{ts:Array TypeId}(hu:(ts[0]?).bind P.underlying=some (.slice e)){n:Nat}(hn:szO P e=some n){x y:V}{x' y':Value}{k:V->Hp->Prop}
  (hk:cpD h n x y k) (hx:RV φ F H h x x') (hy:RV φ F H h y y'):bV False φ F G H h k (bC P H .copy ts ty [x',y']):=by
 unfold cpD at hk;split at hk
 .rename_i s e' off len cap tot;split at hk
  .rename_i m cs ex fr hg;split at hk
   .rename_i j ys hc;split at hk
    .rename_i hcond;obtain⟨⟨h0,rfl,hn0,rfl⟩,ht,hl,hle⟩:=hcond;obtain⟨rfl,_⟩:=tj I hx hg ht;obtain⟨ws,hsrc,hr⟩:=BY I hc hy m hl;have hml:min j len*m<=ys.length:=by rw[hl];exact Zs _ (Nat.min_le_left _ _)
     have hl2:(ys.take (min j len*m)).length=min j len*m:=by rw[Zr];omega
     have hr2:RDs F H (ys.take (min j len*m)) (ws.take (min j len*m)):=RDs.take _ hr;obtain⟨H',hw,I2,S2⟩:=Iu I hg hr2 (by rw[hl2];exact hle);rw[hl2]at I2 S2;refine⟨_,_,_,_,.int .i64 (min j len:Nat),H',?_,hk,I2,S2,fL.2 rfl,False.elim⟩;simp only[bC,hu,hn,hsrc];rw[if_neg aa,hw];rfl
    trivial
   trivial
  trivial
 trivial
theorem Ii{F:Nat->Prop}{H:AH}:∀s:LuQ,RDs F H (s.map λb=>.int .u8 b.toNat) (s.map λb=>Value.int .u8 b.toNat)
 |[]=>rfl
 |b::s=>⟨_,_,rfl,rfl,Ii s⟩
theorem aa6{P:Program}(I:Inv φ F G H h){s d e:TypeId}(hs:P.underlying s=some .string)(hd:P.underlying d=some (.slice e))(he:P.underlying e=some (.int .u8)){x:V}{x':Value}{k:V->Hp->Prop}
  (hk:cvB x h k) (hx:RV φ F H h x x'):bV False φ F G H h k (j5 P H s d x'):=by
 unfold cvB at hk;split at hk
 .rename_i t;rw[ti]at hx;subst hx
  let ws:=t.map λb:UInt8=>Value.int .u8 b.toNat
  have N:jC φ F G h H (H.push (jp H.n 1 ws)) H.n (jp H.n 1 ws):=jC.push I rfl rfl;obtain⟨I2,S2⟩:=I.newData N;refine⟨_,_,_,_,.slice (some ⟨H.n,0,none⟩) t.length t.length,H.push (jp H.n 1 ws),?_,hk,I2,S2,?_,False.elim⟩
  .unfold j5;rw[hs,hd];simp only[he];rfl
  .simp only[RV,RD];by_cases h0:t.length=0
   .have:t=[]:=Zo h0;subst this;exact .inl ⟨rfl,rfl,.inr ⟨H.n,0,0,rfl,_,N.get,by simp[jp]⟩⟩
   .refine .inr ⟨H.n,0,t.length,ws,1,rfl,aa,Z8 _,Nat.one_pos,ac,.inr rfl,?_,Ii t,_,N.get,.inr rfl⟩;rw[kK N.get rfl (by show 0+(t.map _).length<=ws.length;grind)]
    show some ((ws.drop 0).take (t.map _).length)=_
    grind[Z3]
 trivial
theorem Vs{P:Program}(I:Inv φ F G H h){rid:Option Nat}(U:GY G H rid){t e:TypeId}{s len:Nat}{z:List D}(hu:P.underlying t=some (.slice e))
  {zv:Value} (hn:szO P e=some zv.cells.size) (hz:iH P e=some zv) (hpl:plain zv=true) (hzz:zv.cells.toList.map jA=z) (hok:∀c∈zv.cells.toList,okZ c) {ps:List (Nat×V)} {qs:Array (Nat×Value)} (hp:PsR φ F H h ps qs.toList)
  {k:V->Hp->Prop} (hk:wI s len z ps h k):bV False φ F G H h k (gW P H rid t len qs):=by
 unfold wI at hk;split at hk
 .rename_i vs hvs;split at hk
  .rename_i hc;split at hk
   .rename_i xs h1 hx;obtain⟨F1,r,H',ws,S1,r1,hlen,N,hb⟩:=HP I U hu hn hz hpl hzz hok hp hvs hc hx;rw[hb];obtain⟨e0,b0,hs,hk⟩:=kP hk;obtain⟨I2,S2,_,hv⟩:=Do S1.1 hs (ex:=true) (n:=z.length) r1 N rfl rfl rfl (λe=>by cases e) hc.1;exact⟨_,_,_,_,.slice (some ⟨r,0,none⟩) len len,H',rfl,hk,I2,S1.2.trans S2,hv 0 len len _ rfl,False.elim⟩
   trivial
  trivial
 trivial
theorem Vr{P:Program}(I:Inv φ F G H h){rid:Option Nat}(U:GY G H rid){t e:TypeId}{s len:Nat}{z:List D}(hu:P.underlying t=some (.slice e))
  {zv:Value} (hn:szO P e=some zv.cells.size) (hz:iH P e=some zv) (hpl:plain zv=true) (hzz:zv.cells.toList.map jA=z) (hok:∀c∈zv.cells.toList,okZ c) {ps:List (Nat×V)} {qs:Array (Nat×Value)} (hp:PsR φ F H h ps qs.toList)
  {k:V->Hp->Prop} (hk:CS s len z ps h k):bV False φ F G H h k (gW P H rid t len qs):=by
 unfold CS at hk;split at hk
 .rename_i vs hvs;split at hk
  .rename_i hc;obtain⟨ws,hr,hb⟩:=LW hu hn hz hpl hzz hok hp hvs hc.1.1 hc.1.2 rid;obtain⟨r,H',hm,N⟩:=Jg I U ws;rw[hb,hm];obtain⟨e0,b0,hs,hk⟩:=kP hk;obtain⟨I2,S2,hv⟩:=Jc I hs hr N rfl rfl (.inl rfl) len;exact⟨_,_,_,_,.slice (some ⟨r,0,none⟩) len len,H',rfl,hk,I2,S2,hv,False.elim⟩
  .trivial
 .trivial
theorem aap{P:Program}(I:Inv φ F G H h){rid:Option Nat}(U:GY G H rid){t e:TypeId}{s by_:Nat}{z:List D}(hu:P.underlying t=some (.slice e))
  {zv:Value} (hn:szO P e=some zv.cells.size) (hby:qS P e=some by_) (hz:iH P e=some zv) (hpl:plain zv=true) (hzz:zv.cells.toList.map jA=z) (hok:∀c∈zv.cells.toList,okZ c)
  {l c:V} {l' c':Value} (hl:RV φ F H h l l') (hc:RV φ F H h c c') {k:V->Hp->Prop} (hk:mkS s by_ z h l c k):bV False φ F G H h k (oU P H rid t l' c'):=by
 unfold mkS at hk;split at hk
 .rename_i k1 l k2 c;rw[fL]at hl hc;subst hl;subst hc;split at hk
  .rename_i hb;have hzl:z.length=zv.cells.size:=by rw[<-hzz];simp
   obtain⟨e0,b0,hs,hk⟩:=kP hk;obtain⟨r,H',hm,N⟩:=Jg I U (df zv.cells.toList (c.toNat*zv.cells.size))
   have hr:RDs F H (gK c.toNat z) (df zv.cells.toList (c.toNat*zv.cells.size)):=by
    have:=tL (F:=F) (H:=H) hok c.toNat;rw[hzz]at this;simpa using this
   obtain⟨I2,S2,_,hv⟩:=Do I hs (ex:=true) (n:=z.length) hr N rfl rfl rfl (λe=>by cases e) hb.2.2.1;refine⟨_,_,_,_,.slice (some ⟨r,0,none⟩) l.toNat c.toNat,H',?_,hk,I2,S2,hv 0 _ _ _ rfl,False.elim⟩;simp only[oU,hu,hn,hz,hby];rw[if_pos ⟨hpl,trivial,aa,hb.1,hb.2.1,hb.2.2.2.1,hb.2.2.2.2⟩]
   grind
  trivial
 trivial
end
def okX:Operand->Bool
 |.const v=>xX v
 |_=>true
def tyO:Ty->Bool
 |.o=>false
 |_=>true
def ER(Y:kA)(nt:Nat)(o:Oper):Bool:=
 (match o.dst with|some t=>decide (t<nt)|none=>true)&&o.op.operands.all okX &&
 match o.op with
 | .alloc t=>tyO (Y.ty t).k&&match(Y.ty t).k with
  |.ar _ e=>tyO (Y.ty e).k&&decide (0<(Y.ty e).sz)
  |_=>true
 |.store t _ _=>tyO (Y.ty t).k
 | .buildSlice t _ _|.makeSlice t _ _=>match(Y.ty t).k with
  |.sl e=>tyO (Y.ty e).k
  |_=>true
 | .build t _=>match(Y.ty t).k with
  |.ar _ e=>tyO (Y.ty e).k
  |_=>true
 | .fieldAddr t _ f=>match(Y.ty t).k with
  | .st fs=>match fs[f]? with
   |some (_,sz)=>decide (sz≠0)
   |none=>true
  |_=>true
 | .field t _ f=>match Y.X.P.underlying t with
  | some (.struct gs)=>match gs[f]? with
   | some fd=>match Y.X.P.underlying fd.type with
    |some (.struct _)|some (.array _ _)=>!(Nat.beq ((szO Y.X.P fd.type).getD 0) 1)
    |some _=>Nat.beq ((szO Y.X.P fd.type).getD 0) 1
    |none=>false
   |none=>true
  |_=>true
 | .indexAddr t _ _|.slice t _ _ _ _=>match(Y.ty t).k with
  |.sl e|.ar _ e=>tyO (Y.ty e).k
  |_=>true
 | .index t _ _=>match(Y.ty t).k with
  | .ar _ e=>tyO (Y.ty e).k&&(match Y.X.P.underlying e with
   |some (.struct _)|some (.array _ _)=>!(Nat.beq (Y.ty e).sz 1)
   |some _=>Nat.beq (Y.ty e).sz 1
   |none=>false)
  |_=>true
 | .convert s d _=>match(Y.ty s).k,(Y.ty d).k with
  | .sl e,.s=>match(Y.ty e).k with
   |.i .u8=>true
   |_=>false
  | .s,.sl e=>match(Y.ty e).k with
   |.i .u8=>true
   |_=>false
  |_,_=>true
 | .call c=>match c.callee with
  | .builtin .append=>(match c.argTypes[0]?,c.argTypes[1]? with
   | some t,some u=>(match(Y.ty t).k with
     |.sl e=>tyO (Y.ty e).k&&decide (0<(Y.ty e).sz)&&decide (0<(Y.ty e).bytes)
     |_=>true)
   |_,_=>false)&&decide (c.args.size=2)
  |.builtin .copy=>decide (c.args.size=2)&&decide (0<c.argTypes.size)
  |.builtin .len|.builtin .clear|.builtin .cap=>decide (c.args.size=1)&&decide (0<c.argTypes.size)
  |_=>true
 |_=>true
structure YOk(Y:kA):Prop where
 ty:∀t,Gb Y.X.P t (Y.ty t)
 seq:∀gf cs xs,Y.seq gf cs=some xs->(∀z∈xs,∀v∈z,okZ v)∧∀(φ:LnQ)(F:Nat->Prop)(H:AH)(h:Hp) lb,RVs φ F H h cs lb->Y.X.seq gf lb H=some xs∧∀F' H',LeF F F' H H'->Y.X.seqK gf lb H'=Y.X.seqK gf lb H
def pN(Y:kA)(F:Nat->Prop)(H:AH):Prop:=∀g cs,Y.glob g=some cs->Y.X.glob g=true∧F g∧(∃x,H.get g=some x∧x.wr=false∧cV x.cells=true)∧∃vs,cg H g 0 cs.length=some vs∧RDs F H cs vs
theorem pN.mono{Y:kA}{F F':Nat->Prop}{H H':AH}(hl:LeF F F' H H')(g:pN Y F H):pN Y F' H':=λi cs h=>by
 obtain⟨h1,h2,h5,vs,h3,h4⟩:=g i cs h;exact⟨h1,hl.fm i h2,by rw[hl.keep i h2];exact h5,vs,by grind[nC,LeF.keep],RDs.mono hl _ _ h4⟩
def iK(φ:LnQ)(F:Nat->Prop)(H:AH)(h:Hp)(env:Env)(a:LvQ):Prop:=∀t,RV φ F H h (lk env t) (kq a t)
theorem iK.mono{φ φ':LnQ}{F F':Nat->Prop}{H H':AH}{h h':Hp}(hl:LeF F F' H H')(hs:mP φ h φ' h'){env:Env}{a:LvQ}(e:iK φ F H h env a):iK φ' F' H' h' env a:=
 λt=>RV.mono hl hs _ _ (e t)
theorem Me(a:LvQ)(d t:Nat)(v:Value)(hd:d<a.length):kq (a.set d v) t=if t=d then v else kq a t:=by
 rw[oO,oO,Z6,Z6];by_cases ht:t=d
 .grind
 .rw[List.getElem?_set_ne aa,if_neg ht]
theorem xk(t d:Nat)(v:V)(env:Env):lk ((d,v)::env) t=if t=d then v else lk env t:=by
 simp only[lk];cases h:Nat.beq d t with
 |true=>rw[if_pos (Zl h).symm]
 |false=>rw[if_neg (λe=>by simp_all)]
theorem iK.put{φ:LnQ}{F:Nat->Prop}{H:AH}{h:Hp}(e:iK φ F H h env a)(hd:∀t,dst=some t->t<a.length)(hv:RV φ F H h v w):
  iK φ F H h (ZV env dst v) (jB a dst w):=by
 cases dst with
 |none=>exact e
 | some d=>
  intro t
  show RV φ F H h (lk ((d,v)::env) t) (kq (a.set d w) t)
  rw[xk,Me a d t w (hd d rfl)];split
  .exact hv
  .exact e t
theorem Jn:∀(env:Env)(t:Nat)(k:V->Prop),lkK env t k=k (lk env t)
 |[],_,_=>rfl
 | (i,v)::l,t,k=>by
  simp only[lkK,lk];split
  .rfl
  .exact Jn l t k
theorem N7(Y:kA)(env:Env)(x:Operand)(k:V->Prop):evK Y env x k=k (ev Y env x):=by cases x<;>simp only[evK,ev,Jn]
theorem JG(Y:kA)(env:Env):∀(l:List Operand)(k:List V->Prop),Wc Y env l k=k (l.map (ev Y env))
 |[],_=>rfl
 |x::l,k=>by simp only[Wc,N7,JG Y env l,Zv]
section
variable{Y:kA}{φ:LnQ}{F G:Nat->Prop}{H:AH}{h:Hp}
theorem bN(g:pN Y F H)(e:iK φ F H h env a){x:Operand}(hx:okX x=true):RV φ F H h (ev Y env x) (Am.ev Y.X a x):=by
 cases x with
 |tmp t=>exact e t
 |const v=>exact PF hx
 | global i=>
  simp only[ev,Am.ev];split
  .rename_i cs hcs;obtain⟨h1,h2,_,vs,h3,h4⟩:=g i cs hcs
   grind[RV]
  trivial
 |func f=>simp[ev,Am.ev,RV,RVs]
theorem u7(g:pN Y F H){env:Env}{a:LvQ}(e:iK φ F H h env a):∀{l:List Operand},(∀x∈l,okX x=true)->RVs φ F H h (l.map (ev Y env)) (l.map (Am.ev Y.X a))
 |[],_=>by rfl
 | x::l,hl=>by
  simp only[Zv,RVs];exact⟨_,_,rfl,bN g e (hl x ac),u7 g e λy hy=>hl y (by grind)⟩
theorem NA(g:pN Y F H){env:Env}{a:LvQ}(e:iK φ F H h env a):∀{l:List (Nat×Operand)},(∀x∈l,okX x.2=true) ->
  PsR φ F H h (l.map λp=>(p.1,ev Y env p.2)) (l.map λp=>(p.1,Am.ev Y.X a p.2))
 |[],_=>by rfl
 | x::l,hl=>by
  simp only[Zv,PsR];exact⟨_,_,rfl,bN g e (hl x ac),NA g e λy hy=>hl y (by grind)⟩
def Ip(P:Program)(φ:LnQ)(F G:Nat->Prop)(H:AH)(h:Hp)(o:Op)(rid:Option Nat):Prop:=
 match o,rid with
 |.alloc t,some r=>Rid φ F G H h (some r)∧∃z,iH P t=some z∧H.get r=some (fresh r z.cells.toList)
 |_,rid=>GY G H rid
theorem bV.weak{U:Prop}{k:V->Hp->Prop}{r:Option (Value×AH)}(p:bV False φ F G H h k r)(hU:¬U):bV U φ F G H h k r:=by grind
theorem ack(g:pN Y F H)(e:iK φ F H h env a){x:Option Operand}(hx:∀y,x=some y->okX y=true):BoR φ F H h (x.map (ev Y env)) (x.map (Am.ev Y.X a)):=by
 cases x with
 |none=>exact⟨λv hv=>(by cases hv),λ_=>rfl⟩
 |some y=>exact⟨λv hv=>(by cases hv;simp_all[bN]),λhv=>(by cases hv)⟩
theorem lE(Y:kA)(hY:YOk Y){t:TypeId}(ht:tyO (Y.ty t).k=true):∃z,szO Y.X.P t=some z.cells.size∧iH Y.X.P t=some z∧plain z=true∧z.cells.toList.map jA=(Y.ty t).z∧z.cells.size=(Y.ty t).sz∧(∀c∈z.cells.toList,okZ c)∧qS Y.X.P t=some (Y.ty t).bytes∧szO Y.X.P t=some (Y.ty t).sz:=by
 have hne:(Y.ty t).k≠.o:=by intro e;rw[e]at ht;cases ht
 have T:=hY.ty t
 grind[Gb.zero,Gb.sz,Gb.bytes]
theorem abC{P:Program}(I:Inv φ F G H h){dr:Bool}{s n by_:Nat}(hn:0<n){z:List D}{zv:Value}(hzz:zv.cells.toList.map jA=z)(hok:∀c∈zv.cells.toList,okZ c)(hsz:zv.cells.size=n)
  {x y:V} {q:V->Hp->Prop} (hq:apZ dr s n by_ z x y h q) {x' y':Value} (hx:RV φ F H h x x') (hy:RV φ F H h y y') :
  ∃ki k,y'=.int ki k∧0<=k∧k*by_<=140737488355328∧bV (dr=true) φ F G H h q (bU P H n by_ x' k.toNat (df zv.cells.toList (k.toNat*n))):=by
 unfold apZ at hq;split at hq
 .rename_i ki k;rw[fL]at hy;split at hq
  .rename_i hb;refine⟨ki,k,hy,hb.1,hb.2,J3 I hn hq hx ?_⟩;have:=tL (F:=F) (H:=H) hok k.toNat
   grind
  trivial
 trivial
theorem aah(hY:YOk Y)(g:pN Y F H)(I:Inv φ F G H h){C:CC}{dr:Bool}{act:Act}{o:Oper}{nt:Nat}(ho:ER Y nt o=true){env:Env}{a:LvQ}(e:iK φ F H h env a)
  {rid:Option Nat} (R:Ip Y.X.P φ F G H h o.op rid) {k:V->Hp->Prop} (hk:opD Y C dr act o env h k) (hcall:∀c,o.op=.call c->je c.callee=true) :
  bV (dr=true∧pD o.op=true) φ F G H h k (opV Y.X rid H a o):=by
 obtain⟨dst,op,ty,pos,aft,gu⟩:=o;simp only[ER,Z7]at ho;obtain⟨⟨hdst,hopd⟩,ho⟩:=ho
 have hx:∀x∈op.operands.toList,okX x=true:=λx hx=>by
  rw[<-Array.all_toList,Z1]at hopd
  grind
 cases op<;>simp only[opD,N7,JG]at hk<;>(try exact hk.elim)<;>(try dsimp only at ho)<;>simp only[opV]
 case move x=>exact bV.pure I hk (bN g e (hx x aD))
 case assign x=>exact bV.pure I hk (bN g e (hx x aD))
 case pick c x y=>
  refine bV.bnd I hk λv hv=>?_
  obtain⟨t,hc,hr⟩:=UM hv (bN g e (hx c aD)) (bN g e (hx x aD)) (bN g e (hx y aD))
  grind
 case alloc t=>
  split at hk
  .rename_i s;rw[Z7]at ho;obtain⟨ht,ho⟩:=ho;obtain⟨z,hsz,hz,hpl,hzz,hsz2,hok,hby,_⟩:=lE Y hY ht;rw[hz];simp only[hpl,if_true];have hzr:RDs F H (Y.ty t).z z.cells.toList:=by rw[<-hzz];exact p9 hok
   have fin:∀r H',jC φ F G h H H' r (fresh r z.cells.toList)->bV (dr=true∧pD (Op.alloc t)=true) φ F G H h k (some (.pointer (some ⟨r,0,none⟩),H')):=by
    intro r H' N;refine bV.weak ?_ (by simp[pD]);split at hk
    .rename_i n2 e2 hk2;rw[hk2]at ho;simp only[Z7,decide_eq_true_eq]at ho;unfold alD at hk;obtain⟨e0,b0,hs,hk⟩:=kP hk;obtain⟨I2,S2,hv,_⟩:=Do I hs (ex:=true) (n:=(Y.ty e2).sz) hzr N rfl rfl rfl (λe=>by cases e) ho.2;exact⟨_,_,_,_,_,H',rfl,hk,I2,S2,hv 0 _ rfl,False.elim⟩
    .exact Lz I hk (RVs.ofD hzr) N rfl rfl rfl
   cases rid with
   |none=>exact fin H.n _ (jC.push I rfl rfl)
   | some r=>
    obtain⟨R1,z',hz',hg⟩:=R;rw[hz]at hz';cases hz';exact fin r H (jC.laid I R1 hg rfl rfl)
  trivial
 case box t x=>
  split at hk
  .rename_i s;unfold d6 at hk;split at hk
   .rename_i cs hcs;obtain⟨r,H',hm,N⟩:=Jg I R ((Am.ev Y.X a x).cells.toList);rw[hm];exact bV.weak (Lz I hk (yR hcs (bN g e (hx x aD))) N rfl rfl rfl) (by simp[pD])
   trivial
  trivial
 case build t ps=>
  have hps:PsR φ F H h (ps.toList.map λp=>(p.1,ev Y env p.2)) (ps.map λ(i,x)=>(i,Am.ev Y.X a x)).toList:=by
   rw[Array.toList_map];exact NA g e λp hp=>hx p.2 (by grind[Op.operands])
  have T:=hY.ty t;split at hk
  .rename_i fs hfs;obtain⟨z,hsz,hz,hpl,hzz,_,hok,_,_⟩:=lE Y hY (t:=t) (by rw[hfs];rfl)
   grind[Gb.kind,bV.bnd,abi]
  .rename_i n2 e2 hfs;obtain⟨z,hsz,hz,hpl,hzz,_,hok,_,_⟩:=lE Y hY (t:=t) (by rw[hfs];rfl)
   grind[Gb.kind,lE,bV.bnd,XT]
  trivial
 case buildSlice t len ps=>
  have hps:PsR φ F H h (ps.toList.map λp=>(p.1,ev Y env p.2)) (ps.map λ(i,x)=>(i,Am.ev Y.X a x)).toList:=by
   rw[Array.toList_map];exact NA g e λp hp=>hx p.2 (by grind[Op.operands])
  split at hk
  .rename_i e2 hfs;rw[hfs]at ho;have hkd:=(hY.ty t).kind;rw[hfs]at hkd;obtain⟨z,hsz,hz,hpl,hzz,_,hok,_,_⟩:=lE Y hY ho;refine bV.weak ?_ (by simp[pD]);split at hk
   .exact Vs I R hkd hsz hz hpl hzz hok hps hk
   .exact Vr I R hkd hsz hz hpl hzz hok hps hk
   .exact Vu I R hkd hsz hz hpl hzz hok hps hk
  trivial
 case load t x=>
  have T:=hY.ty t;have hr:=bN g e (hx x aD);split at hk
  .rename_i hag;refine bV.bnd I hk λv hv=>?_
   have hu:(∃gs,Y.X.P.underlying t=some (.struct gs))∨∃k e,Y.X.P.underlying t=some (.array k e):=by
    have hkd:=T.kind
    revert hkd hag
    cases(Y.ty t).k<;>simp only[GA]<;>intro hag hkd<;>try cases hag
    .grind
    .grind
   obtain⟨w,hw,hr⟩:=HN I hu (T.sz (by intro e;rw[e]at hag;cases hag)) hv hr
   grind
  .rename_i hag;refine bV.bnd I hk λv hv=>?_
   have hu:∃d,Y.X.P.underlying t=some d∧(∀gs,d≠.struct gs)∧∀n e,d≠.array n e:=by
    have hkd:=T.kind
    revert hkd hag
    cases(Y.ty t).k<;>simp only[GA]<;>intro hag hkd<;>(try cases hag)
    all_goals first
     |exact⟨_,hkd,λ_=>by simp,λ_ _=>by simp⟩
     |(obtain⟨_,hkd⟩:=hkd;exact⟨_,hkd,λ_=>by simp,λ_ _=>by simp⟩)
     |(obtain⟨_,_,_,hkd⟩:=hkd;exact⟨_,hkd,λ_=>by simp,λ_ _=>by simp⟩)
   grind[HO]
  trivial
 case store t x y=>
  have hne:(Y.ty t).k≠.o:=by intro e;rw[e]at ho;cases ho
  exact bV.weak (acQ I ((hY.ty t).sz hne) hk (bN g e (hx x aD)) (bN g e (hx y aD))) (by simp[pD])
 case nilCheck x=>
  refine bV.bnd I hk λv hv=>?_
  obtain⟨p,hp,hr⟩:=Jb hv (bN g e (hx x aD))
  grind
 case binOp op t x y u=>
  have T:=(hY.ty t).kind;have rx:=bN g e (hx x aD);have ry:=bN g e (hx y aD);split at hk
  .refine bV.bnd I hk λv hv=>?_
   obtain⟨w,hw,hr⟩:=abm (P:=Y.X.P) (t:=t) (ox:=x) (oy:=y) hv rx ry
   grind
  .rename_i hb;rw[hb]at T;refine bV.bnd I hk λv hv=>?_
   obtain⟨w,hw,hr⟩:=abo (ox:=x) (oy:=y) T hv rx ry
   grind
  .refine bV.bnd I hk λv hv=>?_
   obtain⟨w,hw,hr⟩:=abj (P:=Y.X.P) (t:=t) (ox:=x) (oy:=y) hv rx ry
   grind
  .rename_i e2 hs;rw[hs]at T;obtain⟨v,w,hkv,hw,hr⟩:=U0 I (ox:=x) (oy:=y) T hk rx ry
   grind[bV.pure]
  .rename_i hs;rw[hs]at T;split at hk
   .rename_i cv;refine bV.bnd I hk λv hv=>?_
    obtain⟨w,hw,hr⟩:=abn (ox:=x) (cv:=cv) T hv rx ry
    grind
   trivial
  .split at hk
   .rename_i he;refine bV.bnd I hk λv hv=>?_
    obtain⟨w,hw,hr⟩:=abq (P:=Y.X.P) (t:=t) (ox:=x) (oy:=y) ((hY.ty t).eq he) hv rx ry
    grind
   trivial
  trivial
 case unOp op t x=>
  refine bV.bnd I hk λv hv=>?_
  obtain⟨h1,w,hw,hr⟩:=acE (P:=Y.X.P) hv (bN g e (hx x aD))
  grind
 case convert s d x=>
  have Ts:=(hY.ty s).kind;have Td:=(hY.ty d).kind;have rx:=bN g e (hx x aD);split at hk
  .grind[bV.bnd,aa5]
  .grind[bV.bnd,aa4]
  .rename_i el e1 e2;rw[e1]at Ts;rw[e2]at Td;rw[e1,e2]at ho;refine bV.bnd I hk λv hv=>?_
   have he:Y.X.P.underlying el=some (.int .u8):=by
    have T3:=(hY.ty el).kind;dsimp only at ho;generalize(Y.ty el).k=q at ho T3;cases q with
    |i k=>cases k<;>first|exact T3|cases ho
    |_=>cases ho
   grind[aa3]
  .rename_i el e1 e2;rw[e1]at Ts;rw[e2]at Td;rw[e1,e2]at ho
   have he:Y.X.P.underlying el=some (.int .u8):=by
    have T3:=(hY.ty el).kind;dsimp only at ho;generalize(Y.ty el).k=q at ho T3;cases q with
    |i k=>cases k<;>first|exact T3|cases ho
    |_=>cases ho
   exact bV.weak (aa6 I Ts Td he hk rx) (by simp[pD])
  trivial
 case makeFunc f x y=>
  cases f<;>simp only[opD,N7,JG]at hk<;>first|exact hk.elim|skip
  refine bV.pure I hk ?_;simp only[RV];refine⟨x.toList.map (Am.ev Y.X a),y.toList.map (Am.ev Y.X a),by simp[<-Array.toList_map],u7 g e λz hz=>hx z (by simp[Op.operands,hz]),u7 g e λz hz=>hx z (by simp[Op.operands,hz])⟩
 case makeSlice t l c=>
  split at hk
  .rename_i e2 s hfs;rw[hfs]at ho;have hkd:=(hY.ty t).kind;rw[hfs]at hkd;obtain⟨z,hsz,hz,hpl,hzz,_,hok,hby,_⟩:=lE Y hY ho;exact bV.weak (aap I R hkd hsz hby hz hpl hzz hok (bN g e (hx l aD)) (bN g e (hx c aD)) hk) (by simp[pD])
  trivial
 case slice t x lo hi mx=>
  have T:=(hY.ty t).kind;have rx:=bN g e (hx x aD);have rl:=ack g e (x:=lo) λy hy=>hx y (by grind[Op.operands])
  have rh:=ack g e (x:=hi) λy hy=>hx y (by grind[Op.operands])
  split at hk
  .grind[bV.bnd,ZI]
  .rename_i e2 hfs;rw[hfs]at T ho;obtain⟨_,_,_,_,_,_,_,_,hsz⟩:=lE Y hY ho;split at hk
   .grind[bV.bnd,ZH]
   .split at hk
    .refine bV.bnd I hk λv hv=>?_
     obtain⟨w,hw,hr⟩:=ZF (k:=.i64) T hsz hv rx
     grind[Am.ev]
    trivial
   .rename_i mx hmx;refine bV.bnd I hk λv hv=>?_
    obtain⟨w,hw,hr⟩:=ZG I T hsz hv rx rl rh (bN g e (hx mx aD))
    grind
  .grind[lE,bV.bnd,ZJ]
  trivial
 case fieldAddr t x f=>
  have T:=(hY.ty t).kind;split at hk
  .rename_i fs hfs;rw[hfs]at T ho;obtain⟨gs,hu,hg⟩:=T;split at hk
   .rename_i off sz hf;dsimp only at ho;rw[hf]at ho;refine bV.bnd I hk λv hv=>?_
    obtain⟨w,hw,hr⟩:=adO hu hg hf (by grind) hv (bN g e (hx x aD))
    grind
   trivial
  trivial
 case field t x f=>
  have T:=(hY.ty t).kind;split at hk
  .rename_i fs hfs;rw[hfs]at T;obtain⟨gs,hu,hg⟩:=T;split at hk
   .rename_i off sz hf;refine bV.bnd I hk λv hv=>?_
    obtain⟨fd,hfd,_,hsz⟩:=FL hg hf
    obtain ⟨w,hw,hr⟩:=adM hu hg hf (λfd2 hfd2=>by
     rw[hfd]at hfd2;cases hfd2;simp only[hu,hfd,hsz,Option.getD_some]at ho;split at ho
     .grind
     .grind
     .rename_i d h1 h2 hd;rw[hd];cases d<;>first|exact ho|exact absurd rfl (h1 _)|grind|exact absurd hd (h1 _)|exact absurd hd (h2 _ _)
     trivial) hv (bN g e (hx x aD))
    grind
   trivial
  trivial
 case indexAddr t x i=>
  have T:=(hY.ty t).kind;have rx:=bN g e (hx x aD);have ri:=bN g e (hx i aD)
  grind[lE,bV.bnd,adz,aaD]
 case index t x i=>
  have T:=(hY.ty t).kind;split at hk
  .rename_i hfs;rw[hfs]at T;refine bV.bnd I hk λv hv=>?_
   obtain⟨w,hw,hr⟩:=aaC T hv (bN g e (hx x aD)) (bN g e (hx i aD))
   grind
  .rename_i len el hfs;rw[hfs]at T ho;dsimp only at ho;rw[Z7]at ho;obtain⟨_,_,_,_,_,_,_,_,hsz⟩:=lE Y hY ho.1;refine bV.bnd I hk λv hv=>?_
   obtain ⟨w,hw,hr⟩:=aaE T hsz (by
    have h2:=ho.2;split at h2
    .grind
    .grind
    .rename_i d h1 h2 hd;rw[hd];cases d<;>first|grind|exact absurd rfl (h1 _)|exact absurd hd (h1 _)|exact absurd hd (h2 _ _)
    trivial) hv (bN g e (hx x aD)) (bN g e (hx i aD))
   grind
  trivial
 case extract x i=>
  unfold ext at hk;split at hk
  .rename_i vs hvs;refine bV.bnd I hk λv hv=>?_
   obtain⟨ws,w,hw,hi,hr⟩:=aaU hvs hv (bN g e (hx x aD))
   grind
  trivial
 case call c=>
  have hb:=hcall c rfl;obtain⟨cal,args,ats⟩:=c;cases cal with
  |value f=>trivial
  |invoke r m=>trivial
  | builtin b=>
   cases b<;>dsimp only at hk ho ⊢ <;>(try exact hk.elim)
   case len=>
    simp only[Z7,decide_eq_true_eq]at ho;obtain⟨h1,h2⟩:=ho
    obtain ⟨x,rfl⟩:∃x,args = #[x]:=by
     obtain⟨l⟩:=args
     match l,h1 with
     |[x],_=>simp
    have rx:=bN g e (hx x (by simp[Op.operands,Call.operands]));obtain⟨t,ht⟩:∃t,ats[0]?=some t:=⟨ats[0],ac⟩;have hgd:ats.getD 0 0=t:=by rw[Ze,ht];rfl
    have hm:(#[x].map (Am.ev Y.X a)).toList=[Am.ev Y.X a x]:=ac;rw[hm];have T:=(hY.ty t).kind;rw[hgd]at hk;have hA:∀d,Y.X.P.underlying t=some d->(ats[0]?).bind Y.X.P.underlying=some d:=λd hd=>by grind
    split at hk
    .rename_i hfs;rw[hfs]at T;refine bV.weak (bV.bnd I hk λv hv=>?_) (by simp[pD]);obtain⟨s,hs,hr⟩:=Vy hv rx
     simp_all[bC]
    .rename_i e2 hfs;rw[hfs]at T;refine bV.weak (bV.bnd I hk λv hv=>?_) (by simp[pD]);obtain⟨b,n,c,hs,hr⟩:=Vx hv rx
     simp_all[bC]
    .rename_i n e2 hfs;rw[hfs]at T
     have:bC Y.X.P H .len ats ty [Am.ev Y.X a x]=some (.int .i64 n,H):=by
      simp only[bC,hA _ T]
     rw[this];exact bV.pure I hk (fL.2 rfl)
    trivial
   case cap=>
    simp only[Z7,decide_eq_true_eq]at ho;obtain⟨h1,h2⟩:=ho
    obtain ⟨x,rfl⟩:∃x,args = #[x]:=by
     obtain⟨l⟩:=args
     match l,h1 with
     |[x],_=>simp
    have rx:=bN g e (hx x (by simp[Op.operands,Call.operands]));obtain⟨t,ht⟩:∃t,ats[0]?=some t:=⟨ats[0],ac⟩;have hgd:ats.getD 0 0=t:=by rw[Ze,ht];rfl
    have hm:(#[x].map (Am.ev Y.X a)).toList=[Am.ev Y.X a x]:=ac;rw[hm];have T:=(hY.ty t).kind;rw[hgd]at hk;have hA:∀d,Y.X.P.underlying t=some d->(ats[0]?).bind Y.X.P.underlying=some d:=λd hd=>by grind
    split at hk
    .rename_i e2 hfs;rw[hfs]at T;refine bV.weak (bV.bnd I hk λv hv=>?_) (by simp[pD]);obtain⟨hs,hr⟩:=XK hv rx;refine⟨.int .i64 0,?_,hr⟩;simp only[bC,hA _ T];rw[show Am.ev Y.X a x=.slice none 0 0 from hs];rfl
    trivial
   case clear=>
    simp only[Z7,decide_eq_true_eq]at ho;obtain⟨h1,h2⟩:=ho
    obtain ⟨x,rfl⟩:∃x,args = #[x]:=by
     obtain⟨l⟩:=args
     match l,h1 with
     |[x],_=>simp
    have rx:=bN g e (hx x (by simp[Op.operands,Call.operands]));obtain⟨t,ht⟩:∃t,ats[0]?=some t:=⟨ats[0],ac⟩;have hgd:ats.getD 0 0=t:=by rw[Ze,ht];rfl
    have hm:(#[x].map (Am.ev Y.X a)).toList=[Am.ev Y.X a x]:=ac;rw[hm];have T:=(hY.ty t).kind;rw[hgd]at hk;split at hk
    .rename_i e2 hfs;rw[hfs]at T;split at hk
     .trivial
     .rename_i hag
      have hne:tyO (Y.ty e2).k=true:=by
       revert hag
       cases(Y.ty e2).k<;>simp[GA,tyO]
      obtain⟨z,hsz,hz,hpl,hzz,_,hok,_,_⟩:=lE Y hY hne;refine bV.weak (XF I (t:=t) (by grind) ?_ hz hpl hzz hok hk rx) ac;omega
    trivial
   case copy=>
    simp only[Z7,decide_eq_true_eq]at ho;obtain⟨h1,h2⟩:=ho
    obtain ⟨x,y,rfl⟩:∃x y,args = #[x,y]:=by
     obtain⟨l⟩:=args
     match l,h1 with
     |[x,y],_=>simp
    have rx:=bN g e (hx x (by simp[Op.operands,Call.operands]));have ry:=bN g e (hx y (by simp[Op.operands,Call.operands]));obtain⟨t,ht⟩:∃t,ats[0]?=some t:=⟨ats[0],ac⟩;have hgd:ats.getD 0 0=t:=by rw[Ze,ht];rfl
    have hm:(#[x,y].map (Am.ev Y.X a)).toList=[Am.ev Y.X a x,Am.ev Y.X a y]:=ac;rw[hm];have T:=(hY.ty t).kind;rw[hgd]at hk;split at hk
    .rename_i e2 hfs;rw[hfs]at T;split at hk
     .trivial
     .rename_i hag
      have hne:tyO (Y.ty e2).k=true:=by
       revert hag
       cases(Y.ty e2).k<;>simp[GA,tyO]
      obtain⟨z,hsz,hz,hpl,hzz,_,hok,_,_⟩:=lE Y hY hne;exact bV.weak (aa9 I (e:=e2) (by grind) aa hk rx ry) ac
    trivial
   case max=>
    refine bV.weak (bV.bnd I hk λv hv=>?_) (by simp[pD]);have:=Pw (P:=Y.X.P) (ts:=ats) (t:=ty) true hv (u7 g e λz hz=>hx z (by simp[Op.operands,Call.operands,hz]))
    simp_all
   case min=>
    refine bV.weak (bV.bnd I hk λv hv=>?_) (by simp[pD]);have:=Pw (P:=Y.X.P) (ts:=ats) (t:=ty) false hv (u7 g e λz hz=>hx z (by simp[Op.operands,Call.operands,hz]))
    simp_all
   case append=>
    simp only[Z7,decide_eq_true_eq]at ho;obtain⟨h1,h2⟩:=ho
    obtain ⟨x,y,rfl⟩:∃x y,args = #[x,y]:=by
     obtain⟨l⟩:=args
     match l,h2 with
     |[x,y],_=>simp
    have rx:=bN g e (hx x (by simp[Op.operands,Call.operands]));have ry:=bN g e (hx y (by simp[Op.operands,Call.operands]));split at h1
    .rename_i t u ht hu;have hgd:ats.getD 0 0=t:=by rw[Ze,ht];rfl
     have hgd1:ats.getD 1 0=u:=by rw[Ze,hu];rfl
     rw[hgd,hgd1]at hk;split at hk
     .rename_i e2 s hfs;rw[hfs]at h1;simp only[Z7,decide_eq_true_eq]at h1;have T:=(hY.ty t).kind;rw[hfs]at T;obtain⟨z,hsz,hz,hpl,hzz,hz2,hok,hby,hsz2⟩:=lE Y hY h1.1.1;have n1:¬((Y.ty e2).sz=0∨(Y.ty e2).bytes=0∨z.cells.size≠(Y.ty e2).sz):=aa;have hm:(#[x,y].map (Am.ev Y.X a)).toList=[Am.ev Y.X a x,Am.ev Y.X a y]:=ac;split at hk
      case h_1=>
       split at hk
       case h_1=>trivial
       rename_i h4;obtain⟨ki,kk,hyv,hk0,hkb,hp⟩:=abC (P:=Y.X.P) I h1.1.2 hzz hok hz2 hk rx ry
       have hd:∃i,Y.X.P.underlying u=some (.int i):=by
        have T3:=(hY.ty u).kind;generalize(Y.ty u).k=q at h4 T3;cases q with
        |i k=>grind
        |_=>exact absurd h4 (by simp[isInt])
       obtain⟨i,hd⟩:=hd
       have hA:bC Y.X.P H .append ats ty [Am.ev Y.X a x,Am.ev Y.X a y]=bU Y.X.P H (Y.ty e2).sz (Y.ty e2).bytes (Am.ev Y.X a x) kk.toNat (df z.cells.toList (kk.toNat*(Y.ty e2).sz)):=by
        unfold bC;simp only[ht,hu,Option.bind_some,T,hd,hsz2,hby,hz,hyv,hpl,hz2,hk0,hkb,true_and,if_true,and_self];rw[if_neg aa]
       rw[hm];rw[hA];obtain⟨v,h',φ',F',w,H',q1,q2,q3,q4,q5,q6⟩:=hp;exact⟨v,h',φ',F',w,H',q1,q2,q3,q4,q5,λq=>q6 q.1⟩
      rename_i h3;obtain⟨k1,vs,hsrc,hp⟩:=abE (P:=Y.X.P) I h1.1.2 hk rx ry
      have hd:∃d,Y.X.P.underlying u=some d∧∀k,d≠.int k:=by
       have T3:=(hY.ty u).kind;generalize(Y.ty u).k=q at h3 T3;cases q with
       |sl e3=>grind
       |s=>grind
       |_=>exact absurd h3 (by simp[PP])
      obtain⟨d,hd,hdn⟩:=hd
      have hA:bC Y.X.P H .append ats ty [Am.ev Y.X a x,Am.ev Y.X a y]=bU Y.X.P H (Y.ty e2).sz (Y.ty e2).bytes (Am.ev Y.X a x) k1 vs:=by
       unfold bC;simp only[ht,hu,Option.bind_some,T,hd,hsz2,hby,hz,n1,if_false];cases d<;>first|exact absurd rfl (hdn _)|simp only[hsrc]
      rw[hm];rw[hA];obtain⟨v,h',φ',F',w,H',q1,q2,q3,q4,q5,q6⟩:=hp;exact⟨v,h',φ',F',w,H',q1,q2,q3,q4,q5,λq=>q6 q.1⟩
     .rename_i e2 s hfs;rw[hfs]at h1;simp only[Z7,decide_eq_true_eq]at h1;have T:=(hY.ty t).kind;rw[hfs]at T;obtain⟨z,hsz,hz,hpl,hzz,hz2,hok,hby,hsz2⟩:=lE Y hY h1.1.1;have n1:¬((Y.ty e2).sz=0∨(Y.ty e2).bytes=0∨z.cells.size≠(Y.ty e2).sz):=aa;have hm:(#[x,y].map (Am.ev Y.X a)).toList=[Am.ev Y.X a x,Am.ev Y.X a y]:=ac;split at hk
      case h_1=>trivial
      rename_i h3;obtain⟨k1,vs,hsrc,hp⟩:=abD (P:=Y.X.P) I hk rx ry
      have hd:∃d,Y.X.P.underlying u=some d∧∀k,d≠.int k:=by
       have T3:=(hY.ty u).kind;generalize(Y.ty u).k=q at h3 T3;cases q with
       |sl e3=>grind
       |s=>grind
       |_=>exact absurd h3 (by simp[PP])
      obtain⟨d,hd,hdn⟩:=hd
      have hA:bC Y.X.P H .append ats ty [Am.ev Y.X a x,Am.ev Y.X a y]=bU Y.X.P H (Y.ty e2).sz (Y.ty e2).bytes (Am.ev Y.X a x) k1 vs:=by
       unfold bC;simp only[ht,hu,Option.bind_some,T,hd,hsz2,hby,hz,n1,if_false];cases d<;>first|exact absurd rfl (hdn _)|simp only[hsrc]
      rw[hm];rw[hA];obtain⟨v,h',φ',F',w,H',q1,q2,q3,q4,q5,q6⟩:=hp;exact⟨v,h',φ',F',w,H',q1,q2,q3,q4,q5,λq=>q6 q.1⟩
     trivial
    trivial
end
def LeC(cf cf':iA):Prop:=∀f a H r,cf f a H=some r->cf' f a H=some r
variable{X:Cfg}{cf cf':iA}
theorem Sj(hl:LeC cf cf'){H:AH}(h:qj X cf rid H a o=some r):qj X cf' rid H a o=some r:=by
 unfold qj at h ⊢;split at h
 .rename_i c hc;split
  .grind
  .rename_i hb;rw[if_neg hb]at h;cases hg:om (Am.ev X a) c with
   |none=>grind
   |some q=>rw[hg]at h;exact hl _ _ _ _ h
 omega
theorem WH(hl:LeC cf cf'){H:AH}(h:dop X cf ops base i o a H=some r):dop X cf' ops base i o a H=some r:=by
 have hs:∀{B:Nat}{q:Value×AH},oo X cf B H a o=some q->oo X cf' B H a o=some q:=λ{B q} h=>by
  unfold oo at h ⊢;split at h
  .split at h
   .split at h
    .rename_i hp;split at h
     .rename_i h1;rw[if_pos hp,hl _ _ _ _ h1];exact h
     .cases h
    .cases h
   .cases h
  .cases h
 have hc:∀{q:Value×AH},yO X cf ops base i o a H=some q->yO X cf' ops base i o a H=some q:=λ{q} h=>by
  unfold yO at h ⊢;split
  .rename_i hc;rw[if_pos hc]at h;exact hs h
  .rename_i hc;rw[if_neg hc]at h;exact Sj hl h
 unfold dop at h ⊢;split at h
 .rename_i h1;rw[hc h1];exact h
 .cases h
theorem Ek(hl:LeC cf cf'){H:AH}{r:LvQ×AH}(h:eE X cf ops base i o a H=some r):eE X cf' ops base i o a H=some r:=by grind[eE,WH]
theorem A8(hl:LeC cf cf'){ops:Array Oper}{base:Option Nat}:∀{l:List Oper}{i:Nat}{a:LvQ}{H:AH}{r:LvQ×AH},sF X cf ops base i l a H=some r->sF X cf' ops base i l a H=some r
 |[],_,_,_,_,h=>h
 | o::l,i,a,H,r,h=>by
  unfold sF at h ⊢;cases hs:eE X cf ops base i o a H with
  |none=>grind
  |some q=>rw[hs]at h;rw[Ek hl hs];exact A8 hl h
theorem Cj(hl:LeC cf cf'){H:AH}{r:LvQ×AH}(h:jH X cf ops draw a H=some r):jH X cf' ops draw a H=some r:=by grind[jH,A8]
theorem Bb{n m:Nat}(ih:∀{c:Code} {a:LvQ} {H:AH} {r:Exit×LvQ×AH},fh X cf n c a H=some r->fh X cf' m c a H=some r){x y:Code}{ps:List Tmp}{a:LvQ}{sq:AH->Prop} :
  ∀{l:List LvQ}{H:AH}{r:Exit×LvQ×AH},oD (λa H=>fh X cf n x a H) (λa H=>fh X cf n y a H) sq ps a l H=some r->oD (λa H=>fh X cf' m x a H) (λa H=>fh X cf' m y a H) sq ps a l H=some r
 |[],H,r,h=>h
 | z::l,H,r,h=>by
  simp only[oD]at h ⊢;split at h
  case isFalse=>cases h
  rename_i hz;rw[if_pos hz];split at h
  case h_2=>cases h
  rename_i a1 H1 h1;rw[ih h1];simp only;split at h
  .rename_i a2 H2 h2;rw[ih h2];simp only;split at h
   case isFalse=>cases h
   rename_i hs;rw[if_pos hs];exact Bb ih h
  .rename_i e2 a2 H2 hne h2;rw[ih h2];cases e2<;>first|exact h|trivial
  .cases h
theorem ip(hl:LeC cf cf'):∀{n m:Nat}{c:Code}{a:LvQ}{H:AH}{r:Exit×LvQ×AH},n<=m->fh X cf n c a H=some r->fh X cf' m c a H=some r:=by
 intro n
 induction n with
 |zero=>intro m c a H r _ h;cases h
 | succ n ih=>
  intro m c a H r hm h;obtain⟨m,rfl⟩:∃k,m=k+1:=⟨m-1,aa⟩;have hm:n<=m:=aa;cases c<;>simp only[fh]at h ⊢ <;>try exact h
  case region id ops draw=>
   grind[Cj]
  case seq x y=>
   cases hx:fh X cf n x a H with
   |none=>grind
   | some q=>
    obtain⟨e,a1,H1⟩:=q;rw[hx]at h;rw[ih hm hx];cases e<;>first|exact ih hm h|exact h
  case cond c x y=>
   grind
  case block id c=>
   grind
  case loop c=>
   cases hx:fh X cf n c a H with
   |none=>grind
   | some q=>
    obtain⟨e,a1,H1⟩:=q;rw[hx]at h;rw[ih hm hx];cases e<;>first|exact ih hm h|exact h
  case scope c=>grind
  grind[Bb]
theorem Hy{X:Cfg}{cf cf':iA}(hl:LeC cf cf'){n m:Nat}(hn:n<=m){x y:Code}{ps:List Tmp}{a:LvQ}{sq:AH->Prop}{l:List LvQ}{H:AH}{r:Exit×LvQ×AH}
  (h:oD (λa H=>fh X cf n x a H) (λa H=>fh X cf n y a H) sq ps a l H=some r):oD (λa H=>fh X cf' m x a H) (λa H=>fh X cf' m y a H) sq ps a l H=some r:=Bb (λh=>ip hl hn h) h
theorem lW(X:Cfg):∀n,LeC (d8 X n) (d8 X (n+1))
 |0,_,_,_,_,h=>by cases h
 | n+1,f,args,H,r,h=>by
  unfold d8 at h ⊢;split
  .grind
  .rename_i hv;rw[hv]at h;simp only at h;split
   .rename_i ha;rw[if_pos ha]at h;cases hf:X.P.funcs[f]? with
    |none=>grind
    | some fn=>
     rw[hf]at h;simp only at h ⊢;cases hb:fn.body with
     |none=>grind
     | some c=>
      rw[hb]at h;simp only at h ⊢;cases he:fh X (d8 X n) n c (args++List.replicate (fn.ntmps-args.length) undef) H with
      |none=>grind
      | some q=>
       rw[he]at h;rw[ip (lW X n) (Nat.le_succ n) he];exact h
   grind
theorem oH(X:Cfg)(h:n<=m):LeC (d8 X n) (d8 X m):=by
 induction h with
 |refl=>exact λ_ _ _ _ h=>h
 |step _ ih=>exact λf a H r hr=>lW X _ f a H r (ih f a H r hr)
def B8(Y:kA)(g:FuncId)(ds:List V)(v:V):Prop:=
 ∀(F:Nat->Prop)(H:AH)(args:LvQ),WF H->(∀c,F c->c<H.n∧∃x,H.get c=some x∧x.st=1)->pN Y F H->(∀φ0 h0,RVs φ0 F H h0 ds args) ->
 ∃ n w H' F',d8 Y.X n g args H=some (w,H')∧H.n<=H'.n∧WF H'∧(∀c,c<H.n->H'.get c=H.get c)∧(∀c,F c->F' c)∧(∀c,F' c->F c∨H.n<=c) ∧
  (∀c,F' c->c<H'.n∧∃x,H'.get c=some x∧x.st=1) ∧
  (∀c x,H.n<=c->H'.get c=some x->x.st≠0->∀g y,g<H.n->H.get g=some y->y.st≠0->x.fam≠y.fam)∧(∀r,r<H.n->mY H r->mY H' r) ∧
  ∀φ0 h0,RV φ0 F' H' h0 v w
section
variable{Y:kA}{φ:LnQ}{F G:Nat->Prop}{H:AH}{h:Hp}
theorem Inv.call(I:Inv φ F G H h){H':AH}{F':Nat->Prop}(hn:H.n<=H'.n)(hw:WF H')(hk:∀c,c<H.n->H'.get c=H.get c)(hF:∀c,F c->F' c)(hN:∀c,F' c->F c∨H.n<=c)
  (ha:∀c,F' c->c<H'.n∧∃x,H'.get c=some x∧x.st=1) (hs:∀c x,H.n<=c->H'.get c=some x->x.st≠0->∀g y,g<H.n->H.get g=some y->y.st≠0->x.fam≠y.fam)
  (hq:∀r,r<H.n->mY H r->mY H' r):Inv φ F' G H' h∧Stp G φ F H h φ F' H' h:=by
 have kFG:∀c,F c∨G c->H'.get c=H.get c:=λc hc=>hk c (I.lt c hc)
 have hle:LeF F F' H H':=⟨hF,λc hc=>kFG c (.inl hc),λc x hx h0=>⟨x,by rw[hk c (AH.get_lt hx)];exact hx,h0⟩⟩
 have kO:∀i e k,h[i]?=some (e,k)->Own k->H'.get (φ.getD i 0)=H.get (φ.getD i 0):=λi e k hi ho=>by
  obtain⟨x,hx,_⟩:=I.own_get hi ho;exact hk _ (AH.get_lt hx)
 refine⟨⟨I.len,?_,?_,λc hc=>(ha c hc).2,?_,?_,?_,hw⟩,⟨hn,kFG,hF,?_,hle.born,λr hr hk=>hq r (I.lt r (.inr hr)) hk,rfl,mP.refl φ h⟩⟩
 .intro i e k hi;by_cases ho:Own k
  .exact(I.blk i e k hi).mono hle (mP.refl φ h) (kO i e k hi ho)
  .cases k with
   |none=>trivial
   |vars cs=>exact absurd trivial ho
   | data n cs ex fr=>
    cases fr with
    |false=>exact absurd rfl ho
    |true=>exact(I.blk i e _ hi).mono hle (mP.refl φ h) (kFG _ (.inl (Ab I hi)))
 .rintro c (hc|hc)
  .exact(ha c hc).1
  .exact Z0 (I.lt c (.inr hc)) hn
 .intro i e k hi ho c hc;obtain⟨z,hz,hz1⟩:=I.own_get hi ho
  have old:F c∨G c->_:=λhc=>by
   obtain⟨p1,p2⟩:=I.priv i e k hi ho c hc;exact(⟨p1,λx y hx hy=>p2 x y (by rw[<-kFG c hc];exact hx) (by rw[<-kO i e k hi ho];exact hy)⟩:c≠φ.getD i 0∧∀x y,H'.get c=some x->H'.get (φ.getD i 0)=some y->x.st=1->x.fam≠y.fam)
  rcases hc with hc|hc
  .rcases hN c hc with hc|hc
   .exact old (.inl hc)
   .have:=AH.get_lt hz;refine⟨aa,λx y hx hy h1=>?_⟩;rw[kO i e k hi ho]at hy;exact hs c x hc hx aa _ y (AH.get_lt hy) hy (by rw[hz]at hy;cases hy;omega)
  .exact old (.inr hc)
 .intro i e k j e' k' hi ho hj ho' hij;obtain⟨p1,p2⟩:=I.inj i e k j e' k' hi ho hj ho' hij;exact⟨p1,λx y hx hy=>p2 x y (by rw[<-kO i e k hi ho];exact hx) (by rw[<-kO j e' k' hj ho'];exact hy)⟩
 .intro c x g y hx h0 hc hg hy hy0;rw[kFG g (.inr hg)]at hy;by_cases hcn:c<H.n
  .rw[hk c hcn]at hx;exact I.sep c x g y hx h0 hc hg hy hy0
  .exact hs c x aa hx h0 g y (AH.get_lt hy) hy hy0
 .intro c hc;rcases hN c hc with hc|hc
  .exact .inl hc
  .exact .inr λhg=>absurd (I.lt c (.inr hg)) aa
def fu(φ:LnQ)(F G:Nat->Prop)(H:AH)(h:Hp)(n:Nat)(cells:List D)(ex:Bool)(len cap:Nat)(w:Value):Prop:=
 ∃ c x,w=.slice (some ⟨c,0,none⟩) len cap∧H.get c=some x∧x.st=1∧x.wr=true∧RDs F H cells x.cells∧x.exact=ex∧(ex=false->x.esz=n)∧0<n ∧
  (∀g,F g∨G g->g≠c∧∀y,H.get g=some y->y.st=1->y.fam≠x.fam)∧(∀i e b,h[i]?=some (e,b)->Own b->φ.getD i 0≠c∧∀y,H.get (φ.getD i 0)=some y->y.fam≠x.fam)
def abL(φ:LnQ)(F G:Nat->Prop)(H:AH)(h:Hp)(cells:List D)(c:Nat):Prop:=
 ∃ x,H.get c=some x∧x.st=1∧x.wr=true∧RDs F H cells x.cells∧(x.exact=true∨x.esz=1) ∧
  (∀g,F g∨G g->g≠c∧∀y,H.get g=some y->y.st=1->y.fam≠x.fam)∧(∀i e b,h[i]?=some (e,b)->Own b->φ.getD i 0≠c∧∀y,H.get (φ.getD i 0)=some y->y.fam≠x.fam)
def YN(φ:LnQ)(F G:Nat->Prop)(H:AH)(h:Hp)(v:V)(w:Value):Prop:=match v with
 |.new n cells ex len cap=>fu φ F G H h n cells ex len cap w
 |.cut n=>w=.slice none 0 0∨fu φ F G H h n [] true 0 0 w
 |.tup [.new n cells ex len cap,.d y]=>∃w1 w2,w=.tuple ⟨[w1,w2]⟩∧fu φ F G H h n cells ex len cap w1∧RD F H y w2
 |.tup [.new n cells ex len cap]=>∃c,w=.pointer (some ⟨c,0,none⟩)∧abL φ F G H h cells c
 |.tup [.tup [.new n cells ex len cap],.d y]=>∃c w2,w=.tuple ⟨[.pointer (some ⟨c,0,none⟩),w2]⟩∧abL φ F G H h cells c∧RD F H y w2
 |v=>RV φ F H h v w
def Gc(Y:kA)(g:FuncId)(args:List V)(h:Hp)(v:V)(h':Hp):Prop:=
 ∀(φ:LnQ)(F G:Nat->Prop)(H:AH)(ws:LvQ),Inv φ F G H h->pN Y F H->RVs φ F H h args ws ->
 ∃n w H' φ' F',d8 Y.X n g ws H=some (w,H')∧Inv φ' F' G H' h'∧Stp G φ F H h φ' F' H' h'∧YN φ' F' G H' h' v w
structure COk(Y:kA)(C:CC):Prop where
 p:∀g ds v,C.p g ds v->B8 Y g ds v
 i:∀g args h v h',C.i g args h v h'->Gc Y g args h v h'
theorem Inv.adoptB(I:Inv φ F G H h){s e0:Nat}{b0 b:Bk}(hs:h[s]?=some (e0,b0)){c:Nat}{x:Blk}(hx:H.get c=some x)(hx1:x.st=1)
  (hb:LeF F F H H->mP φ h (φ.set s c) (h.set s (e0+1,b))->RB (φ.set s c) F H (h.set s (e0+1,b)) c b) (hp:∀g,F g∨G g->g≠c∧∀y,H.get g=some y->y.st=1->y.fam≠x.fam) (ho:∀i e b,h[i]?=some (e,b)->Own b->φ.getD i 0≠c∧∀y,H.get (φ.getD i 0)=some y->y.fam≠x.fam) :
  Inv (φ.set s c) F G H (h.set s (e0+1,b))∧Stp G φ F H h (φ.set s c) F H (h.set s (e0+1,b)):=by
 have hsl:s<h.length:=bj hs;have hsφ:s<φ.length:=by rw[I.len];exact hsl
 have ax:∀i,(h.set s (e0+1,b))[i]?=if i=s then some (e0+1,b)else h[i]?:=λi=>pE hsl
 have hle:LeF F F H H:=⟨λ_ hc=>hc,λ_ _=>rfl,λc x hx h0=>⟨x,hx,h0⟩⟩
 have hslle:mP φ h (φ.set s c) (h.set s (e0+1,b)):=by
  intro i;by_cases hi:i=s
  .subst hi;have e1:ep h i=e0:=by simp[ep,hs]
   have e2:ep (h.set i (e0+1,b)) i=e0+1:=by simp[ep,hsl]
   exact⟨aa,λe=>by omega⟩
  .have e2:ep (h.set s (e0+1,b)) i=ep h i:=by unfold ep;rw[ax,if_neg hi]
   refine⟨aa,λ_ m hm=>⟨m,?_,Z8 _,λ_=>by rw[dh hsφ,if_neg hi]⟩⟩
   grind[ax]
 refine⟨⟨by simp[I.len],?_,I.lt,I.fb,?_,?_,I.sep,I.wf⟩,⟨Z8 _,λ_ _=>rfl,λ_ hc=>hc,λ_ hc=>.inl hc,λc x hx h0=>⟨x,hx,h0⟩,λ_ _ hq=>hq,ac,hslle⟩⟩
 .intro i e k hi;rw[ax]at hi;rw[dh hsφ];split at hi
  .rename_i hi';subst hi';cases hi;rw[if_pos rfl];exact hb hle hslle
  grind[RB.mono,blk]
 .intro i e k hi hk g hg;rw[ax]at hi;rw[dh hsφ];split at hi
  .grind
  .rename_i hi';rw[if_neg hi'];exact I.priv i e k hi hk g hg
 .intro i e k j e' k' hi hk hj hk' hij;rw[ax]at hi hj;rw[dh hsφ,dh hsφ];split at hi
  .grind
  .rename_i hi';rw[if_neg hi'];split at hj
   .grind
   .rename_i hj';rw[if_neg hj'];exact I.inj i e k j e' k' hi hk hj hk' hij
theorem Inv.adopt(I:Inv φ F G H h){s e0 n:Nat}{b0:Bk}(hs:h[s]?=some (e0,b0)){cells:List D}{ex:Bool}{c:Nat}{x:Blk}(hx:H.get c=some x)(hx1:x.st=1)(hwr:x.wr=true)(hd:RDs F H cells x.cells)(hex:x.exact=ex)
  (hez:ex=false->x.esz=n) (hn:0<n) (hp:∀g,F g∨G g->g≠c∧∀y,H.get g=some y->y.st=1->y.fam≠x.fam) (ho:∀i e b,h[i]?=some (e,b)->Own b->φ.getD i 0≠c∧∀y,H.get (φ.getD i 0)=some y->y.fam≠x.fam) :
  Inv (φ.set s c) F G H (h.set s (e0+1,.data n cells ex false))∧Stp G φ F H h (φ.set s c) F H (h.set s (e0+1,.data n cells ex false)):=
 I.adoptB hs hx hx1 (λhle hsl=>⟨x,hx,hx1,RDs.mono hle _ _ hd,λ_=>hex,λe=>.inr (hez e),hn,λe=>(by cases e),λ_=>hwr⟩) hp ho
theorem Inv.adoptR(I:Inv φ F G H h)(hs:h[s]?=some (e0,b0)){c:Nat}(hr:abL φ F G H h cells c):
  Inv (φ.set s c) F G H (h.set s (e0+1,.vars (cells.map .d)))∧Stp G φ F H h (φ.set s c) F H (h.set s (e0+1,.vars (cells.map .d))):=by obtain⟨x,hx,hx1,hwr,hd,hxe,hp,ho⟩:=hr;exact I.adoptB hs hx hx1 (λhle hsl=>⟨x,hx,hx1,hwr,hxe,RVs.ofD (RDs.mono hle _ _ hd)⟩) hp ho
theorem abe{D:sC}(hD:∀g args h v h',D g args h v h'->Gc Y g args h v h')(g:pN Y F H)(I:Inv φ F G H h){c:V}{args:List V}{s:Nat}{k:V->Hp->Prop}(hk:cai D h c args s k){c':Value}{args':LvQ}
  (hc:RV φ F H h c c') (ha:RVs φ F H h args args'):∃f x y,c'=.func (.func f) ⟨x⟩ ⟨y⟩∧∃n,bV False φ F G H h k (d8 Y.X n f (x++args'++y) H):=by
 unfold cai at hk;split at hk
 .rename_i f fs cs;simp only[RV]at hc;obtain⟨x,y,rfl,hx,hy⟩:=hc;refine⟨f,x,y,rfl,?_⟩;obtain⟨v,h1,hv,hk⟩:=hk;obtain⟨n,w,H',φ',F',e,I',S',hr⟩:=hD f _ h v h1 hv φ F G H _ I g ((hx.append ha).append hy);refine⟨n,?_⟩;rw[e];split at hk
  .rename_i m cells ex len cap;obtain⟨e0,b0,hs,hk⟩:=kP hk;obtain⟨c,z,rfl,hz,hz1,hzw,hd,hex,hez,hm,hp,ho⟩:=hr;obtain⟨I2,S2⟩:=I'.adopt hs hz hz1 hzw hd hex hez hm hp ho;refine⟨_,_,_,_,_,H',rfl,hk,I2,S'.trans S2,?_,False.elim⟩;obtain⟨g1,g2⟩:=pu (b:=.data m cells ex false) hs;simp only[RV];refine⟨⟨_,_,rfl⟩,aa,λq hq=>?_⟩;rw[g1]at hq;cases hq
   exact⟨Z8 _,λ_=>by rw[dh (by grind[Inv.len]),if_pos rfl]⟩
  .trivial
  .rename_i m cells ex len cap y0;obtain⟨e0,b0,hs,hk⟩:=kP hk;obtain⟨w1,w2,rfl,⟨c,z,rfl,hz,hz1,hzw,hd,hex,hez,hm,hp,ho⟩,hry⟩:=hr;obtain⟨I2,S2⟩:=I'.adopt hs hz hz1 hzw hd hex hez hm hp ho;refine⟨_,_,_,_,_,H',rfl,hk,I2,S'.trans S2,?_,False.elim⟩;obtain⟨g1,g2⟩:=pu (b:=.data m cells ex false) hs;simp only[RV,RVs];refine⟨_,rfl,_,_,rfl,⟨⟨_,_,rfl⟩,aa,λq hq=>?_⟩,_,_,rfl,hry,rfl⟩
   rw[g1]at hq;cases hq;exact⟨Z8 _,λ_=>by rw[dh (by grind[Inv.len]),if_pos rfl]⟩
  .rename_i m cells ex len cap;obtain⟨e0,b0,hs,hk⟩:=kP hk;obtain⟨c',rfl,hr⟩:=hr;obtain⟨I2,S2⟩:=I'.adoptR hs hr;refine⟨_,_,_,_,_,H',rfl,hk,I2,S'.trans S2,?_,False.elim⟩;obtain⟨g1,g2⟩:=pu (b:=.vars (cells.map .d)) hs;simp only[RV];refine⟨⟨_,_,rfl⟩,aa,λq hq=>?_⟩;rw[g1]at hq;cases hq;exact⟨ac,λ_=>by rw[dh (by grind[Inv.len]),if_pos rfl]⟩
  .rename_i m cells ex len cap y0;obtain⟨e0,b0,hs,hk⟩:=kP hk;obtain⟨c',w2,rfl,hr,hry⟩:=hr;obtain⟨I2,S2⟩:=I'.adoptR hs hr;refine⟨_,_,_,_,_,H',rfl,hk,I2,S'.trans S2,?_,False.elim⟩;obtain⟨g1,g2⟩:=pu (b:=.vars (cells.map .d)) hs;simp only[RV,RVs];refine⟨_,rfl,_,_,rfl,⟨⟨_,_,rfl⟩,aa,λq hq=>?_⟩,_,_,rfl,hry,rfl⟩;rw[g1]at hq;cases hq
   exact⟨ac,λ_=>by rw[dh (by grind[Inv.len]),if_pos rfl]⟩
  .rename_i hne hne2 hne3 hne4 hne5
   have hr2:RV φ' F' H' h1 v w:=by
    unfold YN at hr;split at hr
    .grind
    .grind
    .grind
    .grind
    .grind
    .exact hr
   exact⟨v,h1,φ',F',w,H',rfl,hk,I',S',hr2,False.elim⟩
 trivial
theorem XO{D:sC}(hD:∀g args h v h',D g args h v h'->Gc Y g args h v h')(g:pN Y F H)(I:Inv φ F G H h){c:V}{args:List V}{s:Nat}{k:V->Hp->Prop}(hk:ad8 D h c args s k){c':Value}{args':LvQ}
  (hc:RV φ F H h c c') (ha:RVs φ F H h args args') {U:Prop}:∃f x y,c'=.func (.func f) ⟨x⟩ ⟨y⟩∧∃n,bV U φ F G H h k (d8 Y.X n f (x++args'++y) H):=by
 unfold ad8 at hk;split at hk
 .rename_i f fs cs;simp only[RV]at hc;obtain⟨x,y,rfl,hx,hy⟩:=hc;refine⟨f,x,y,rfl,?_⟩;split at hk
  .rename_i ds h1 hsn;obtain⟨v,hv,hk⟩:=hk;obtain⟨F1,S1,r1⟩:=pS I hsn ((hx.append ha).append hy)
   have I0:Inv [] F1 (λc=>c<H.n) H []:=⟨rfl,λi e b hi=>by simp at hi,λc hc=>hc.elim (λh=>S1.1.lt c (.inl h)) id,λc hc=>S1.1.fb c hc,λi e b hi=>by simp at hi,λi e b j e' b' hi=>by simp at hi,
    λc x g y hx _ hc=>absurd (AH.get_lt hx) hc,I.wf⟩
   obtain⟨n,w,H',φ',F',e,I',S',hr⟩:=hD f ds [] v [] hv [] F1 _ H _ I0 (g.mono S1.2.leF) (r1 [] []);have q3:∀c,c<H.n->H'.get c=H.get c:=λc hc=>S'.keep c (.inr hc)
   obtain ⟨I2,S2⟩:=S1.1.call S'.n I'.wf q3 S'.fm (λc hc=>(S'.fn c hc).imp id λh=>Nat.le_of_not_lt h) (λc hc=>⟨I'.lt c (.inl hc) |> λh=>h,I'.fb c hc⟩)
    (λc x hcn hx h0 g y hg hy h1=>I'.sep c x g y hx h0 (λh=>absurd h (Nat.not_lt.2 hcn)) hg (by grind) h1) (λr hr hk=>S'.nokin r hr hk)
   refine⟨n,?_⟩;rw[e];split at hk
   .rename_i m cells ex len cap;obtain⟨e0,b0,hs,hk⟩:=kP hk;obtain⟨c,z,rfl,hz,hz1,hzw,hd,hex,hez,hm,hp,_⟩:=hr
    obtain ⟨I3,S3⟩:=I2.adopt hs hz hz1 hzw hd hex hez hm (λg hg=>hp g (hg.imp id λh=>S1.1.lt g (.inr h))) (λi e b hi ho=>by
     obtain⟨y,hy,hy1⟩:=S1.1.own_get hi ho
     grind[AH.get_lt])
    refine⟨_,_,_,_,_,H',rfl,hk,I3,(S1.2.trans S2).trans S3,?_,λ_=>q3⟩;obtain⟨g1,g2⟩:=pu (b:=.data m cells ex false) hs;simp only[RV];refine⟨⟨_,_,rfl⟩,aa,λq hq=>?_⟩;rw[g1]at hq;cases hq;exact⟨Z8 _,λ_=>by rw[dh (by grind[Inv.len]),if_pos rfl]⟩
   .rename_i m;obtain⟨hk1,hk2⟩:=hk;rcases hr with rfl|hr
    .exact⟨_,h1,φ,F',_,H',rfl,hk1,I2,S1.2.trans S2,by trivial,λ_=>q3⟩
    obtain⟨e0,b0,hs,hk⟩:=kP hk2;obtain⟨c,z,rfl,hz,hz1,hzw,hd,hex,hez,hm,hp,_⟩:=hr
    obtain ⟨I3,S3⟩:=I2.adopt hs hz hz1 hzw hd hex hez hm (λg hg=>hp g (hg.imp id λh=>S1.1.lt g (.inr h))) (λi e b hi ho=>by
     obtain⟨y,hy,hy1⟩:=S1.1.own_get hi ho
     grind[AH.get_lt])
    refine⟨_,_,_,_,_,H',rfl,hk,I3,(S1.2.trans S2).trans S3,?_,λ_=>q3⟩;obtain⟨g1,g2⟩:=pu (b:=.data m [] true false) hs;simp only[RV];refine⟨⟨_,_,rfl⟩,aa,λq hq=>?_⟩;rw[g1]at hq;cases hq;exact⟨Z8 _,λ_=>by rw[dh (by grind[Inv.len]),if_pos rfl]⟩
   .rename_i x;exact⟨_,h1,φ,F',w,H',rfl,hk,I2,S1.2.trans S2,hr,λ_=>q3⟩
   trivial
  trivial
 trivial
theorem abd{C:sE}(hC:∀g ds v,C g ds v->B8 Y g ds v)(g:pN Y F H)(I:Inv φ F G H h){c:V}{args:List V}{k:V->Hp->Prop}(hk:cal C h c args k){c':Value}{args':LvQ}
  (hc:RV φ F H h c c') (ha:RVs φ F H h args args') {U:Prop}:∃f x y,c'=.func (.func f) ⟨x⟩ ⟨y⟩∧∃n,bV U φ F G H h k (d8 Y.X n f (x++args'++y) H):=by
 unfold cal at hk;split at hk
 .rename_i f fs cs;simp only[RV]at hc;obtain⟨x,y,rfl,hx,hy⟩:=hc;refine⟨f,x,y,rfl,?_⟩;split at hk
  .rename_i ds h1 hsn;obtain⟨v,hCv,hk⟩:=hk;obtain⟨F1,S1,r1⟩:=pS I hsn ((hx.append ha).append hy);obtain⟨n,w,H',F',e,q1,q2,q3,q4,q5,q6,q7,q8,q9⟩:=hC f ds v hCv F1 H _ I.wf (λc hc=>⟨S1.1.lt c (.inl hc),S1.1.fb c hc⟩) (g.mono S1.2.leF) r1;refine⟨n,?_⟩;rw[e];split at hk
   .rename_i hp
    obtain ⟨I2,S2⟩:=I.call q1 q2 q3 (λc hc=>hc) (λc hc=>.inl hc) (λc hc=>by
     have:=I.lt c (.inl hc);exact⟨Z0 this q1,by rw[q3 c this];exact I.fb c hc⟩) q7 q8
    exact⟨v,h,φ,F,w,H',rfl,hk,I2,S2,eT hp (q9 [] []) _ _ _ _,λ_=>q3⟩
   .obtain⟨I2,S2⟩:=S1.1.call q1 q2 q3 q4 q5 q6 q7 q8;exact⟨v,h1,φ,F',w,H',rfl,hk,I2,S1.2.trans S2,q9 φ h1,λ_=>q3⟩
  trivial
 trivial
theorem EL:∀{xs:List V}{ws:LvQ},oM xs=true->RVs φ F H h xs ws->∀φ0 F0 H0 h0,RVs φ0 F0 H0 h0 xs ws
 |[],ws,_,hr,φ0,F0,H0,h0=>by simpa[RVs]using hr
 | x::xs,ws,hp,hr,φ0,F0,H0,h0=>by
  simp only[oM,Z7]at hp;simp only[RVs]at hr ⊢;obtain⟨v,vs,e,r1,r2⟩:=hr;exact⟨v,vs,e,eT hp.1 r1 _ _ _ _,EL hp.2 r2 _ _ _ _⟩
theorem Le:∀{x:V}{w:Value},cS x=true->RV φ F H h x w->plain w=true:=by
 intro x
 induction x using V.rec (motive_2:=λxs=>∀{ws:LvQ},oM xs=true->RVs φ F H h xs ws->cV ws=true)with
 |junk=>simp[cS]
 | d x=>
  intro w hp hx;simp only[RV]at hx;cases x<;>simp only[RD]at hx
  case sl=>simp[cS]at hp
  case pl=>rw[hx.1];exact hx.2.1
  all_goals(subst hx;rfl)
 |ref=>simp[cS]
 |ptr=>simp[cS]
 |dptr=>simp[cS]
 |cut=>simp[cS]
 | agg l ih=>
  intro w hp hx;simp only[RV]at hx;obtain⟨ws,rfl,hr⟩:=hx;simp only[plain];exact ih (by simpa[cS]using hp) hr
 | tup l ih=>
  intro w hp hx;simp only[RV]at hx;obtain⟨ws,rfl,hr⟩:=hx;simp only[plain];exact ih (by simpa[cS]using hp) hr
 |fn=>simp[cS]
 | ifc t x ih=>
  intro w hp hx;simp only[RV]at hx;obtain⟨ws,rfl,hr⟩:=hx;simp only[plain];exact ih (by simpa[cS]using hp) hr
 |new=>simp[cS]
 | nil=>
  rename_i hr;simp only[RVs]at hr;subst hr;rfl
 | cons x xs ih ihs=>
  rename_i hp hr;simp only[oM,Z7]at hp;simp only[RVs]at hr;obtain⟨v,vs,rfl,r1,r2⟩:=hr;simp only[cV,ih hp.1 r1,ihs hp.2 r2,Xd]
theorem zz:∀{xs:List V}{ws:LvQ},oM xs=true->RVs φ F H h xs ws->cV ws=true
 |[],ws,_,hr=>by simp only[RVs]at hr;subst hr;rfl
 | x::xs,ws,hp,hr=>by
  simp only[oM,Z7]at hp;simp only[RVs]at hr;obtain⟨v,vs,rfl,r1,r2⟩:=hr;simp only[cV,Le hp.1 r1,zz hp.2 r2,Xd]
theorem RD.plain{F':Nat->Prop}{H':AH}:∀{x:D}{v:Value},RD F H x v->Am.plain v=true->RD F' H' x v
 |.int ..,_,hv,_=>hv
 |.bool _,_,hv,_=>hv
 |.str _,_,hv,_=>hv
 |.pl _,_,hv,_=>hv
 | .sl len cells,v,hv,hp=>by
  simp only[RD]at hv ⊢;rcases hv with⟨h1,h2,h3⟩|⟨c,o,cap,vs,n,e,_⟩
  .refine .inl ⟨h1,h2,?_⟩;rcases h3 with e|⟨c,o,cap,e,_⟩
   .exact .inl e
   .rw[e]at hp;cases hp
  .rw[e]at hp;cases hp
theorem RDs.plain{F':Nat->Prop}{H':AH}:∀{xs:List D}{vs:LvQ},RDs F H xs vs->(∀v∈vs,Am.plain v=true)->RDs F' H' xs vs
 |[],vs,h,_=>h
 | x::xs,vs,h,hp=>by
  simp only[RDs]at h ⊢;obtain⟨v,us,rfl,h1,h2⟩:=h;exact⟨v,us,rfl,h1.plain (hp v ac),h2.plain λu hu=>hp u (by simp[hu])⟩
theorem EM:∀{l:LvQ},cV l=true->∀v∈l,Am.plain v=true
 |[],_,v,hv=>by cases hv
 | x::l,h,v,hv=>by
  simp only[cV,Z7]at h;rcases Zu.1 hv with rfl|hv
  .exact h.1
  .exact EM h.2 v hv
theorem MH{vs:LvQ}(hx:H.get i=some x)(hp:cV x.cells=true)(hr:cg H i 0 n=some vs)(h:RDs F H cs vs):RDs F' H' cs vs:=by
 refine h.plain λv hv=>EM hp v ?_
 unfold cg at hr;rw[hx]at hr;simp only at hr;split at hr
 .cases hr;exact List.mem_of_mem_drop (W8 hv)
 .cases hr
theorem N6{H0 H':AH}(hq7:∀c x,H0.n<=c->H'.get c=some x->x.st≠0->∀g y,g<H0.n->H0.get g=some y->y.st≠0->x.fam≠y.fam)(hq8:∀r,r<H0.n->mY H0 r->mY H' r)
  {c f:Nat} {x:Blk} (hc:H0.n<=c) (hx:H'.get c=some x) (h0:x.st≠0) (hf:f<H0.n):x.fam≠f:=by
 by_cases hk:mY H0 f
 .exact hq8 f hf hk c x hx h0 aa
 .unfold mY at hk;intro he;apply hk;intro c0 x0 hx0 hs0 _ he0;exact hq7 c x hc hx h0 c0 x0 (AH.get_lt hx0) hx0 hs0 (he.trans he0.symm)
theorem abw{X:Cfg}{B:Nat}{H:AH}(w:WF H):WF (H.bare X B):=by
 refine⟨?_,λc x hx=>?_⟩
 ·have:∀(l:List Blk)(n:Nat),(w6 X B n l).length=l.length:=by
   intro l
   induction l with
   |nil=>intro n;rfl
   |cons x l ih=>intro n;simp[w6,ih]
  exact(this _ _).trans w.len
 .rw[pM]at hx;cases hg:H.get c with
  |none=>rw[hg]at hx;cases hx
  | some y=>
   rw[hg,Option.map_some]at hx;have:=w.fam c y hg;split at hx
   .cases hx;exact this
   .cases hx;exact Zc _
theorem RX{H:AH}(w:WF H')(hb:H.n<=b):(H.graft H').get b=H'.get b:=by
 by_cases hl:b<H'.n
 .obtain⟨x,hx⟩:=w.get_some hl;rw[hx,HZ hb hx]
 .rw[AH.get_neg hl,AH.get_neg (H:=H.graft H') hl]
theorem ZE{C:CC}(hC:∀g ds v,C.p g ds v->B8 Y g ds v)(g:pN Y F H)(I:Inv φ F G H h){B:Nat}(hB:∀g cs,Y.glob g=some cs->g<B){o:Oper}{nt:Nat}(ho:ER Y nt o=true){env:Env}{a:LvQ}(e:iK φ F H h env a)
  {k:V->Hp->Prop} (hk:soE Y C o env h k):∃n v F' w H',oo Y.X (d8 Y.X n) B H a o=some (w,H')∧k v h∧Inv φ F' G H' h∧Stp G φ F H h φ F' H' h∧RV φ F' H' h v w:=by
 unfold soE at hk;split at hk
 .rename_i c hc
  have hopd:o.op.operands.all okX=true:=by
   simp only[ER,Z7]at ho;exact ho.1.2
  rw[hc]at hopd
  have hx:∀x∈c.operands.toList,okX x=true:=λx hx=>by
   rw[<-Array.all_toList,Z1]at hopd;exact hopd x hx
  split at hk
  .rename_i f hf;have rf:=bN g e (hx f (by simp[Call.operands,hf]));have ra:=u7 g e (l:=c.args.toList) λx h=>hx x (by simp[Call.operands,h])
   unfold soC at hk;split at hk
   .rename_i g1 hg1;split at hk
    .rename_i hp;obtain⟨v,hCv,hk⟩:=hk;rw[hg1]at rf;simp only[RV,RVs]at rf;obtain⟨_,_,hfv,rfl,rfl⟩:=rf
     let F0:Nat->Prop:=λc=>F c∧c<B∧Y.X.glob c=true∧(H.bare Y.X B).get c=H.get c
     have rp:=EL hp ra
     obtain ⟨n,w,H1,F1,q0,q1,q2,q3,q4,q5,q6,q7,q8,q9⟩:=hC g1 _ v hCv F0 (H.bare Y.X B) (c.args.toList.map (Am.ev Y.X a)) (abw I.wf) (λc hc=>by
       refine⟨I.lt c (.inl hc.1),?_⟩;rw[hc.2.2.2];exact I.fb c hc.1) (λi cs hi=>by
       obtain⟨g1,g2,⟨x,g3,g4,g5⟩,vs,g6,g7⟩:=g i cs hi;have hb:=hB i cs hi
       have hsame:(H.bare Y.X B).get i=H.get i:=by
        rw[pM,g3,Option.map_some,if_pos ⟨hb,g1⟩,if_pos g5,<-g4]
       refine⟨g1,⟨g2,hb,g1,hsame⟩,⟨x,by rw[hsame];exact g3,g4,g5⟩,vs,?_,?_⟩
       .rw[nC hsame];exact g6
       .exact MH g3 g5 g6 g7) (λφ0 h0=>rp φ0 _ _ h0)
     have hold:∀c,c<H.n->(H.graft H1).get c=H.get c:=λc hc=>xq q1 hc
     have hnew:∀c,H.n<=c->(H.graft H1).get c=H1.get c:=λc hc=>RX q2 hc
     have hst:∀{c y},(H.bare Y.X B).get c=some y->y.st≠0->∃x,H.get c=some x∧x.st≠0∧x.fam=y.fam:=λ{c y} hy h0=>by
      rw[pM]at hy;cases hg:H.get c with
      |none=>rw[hg]at hy;cases hy
      | some x=>
       rw[hg,Option.map_some]at hy;split at hy
       .cases hy;refine⟨x,rfl,?_,rfl⟩;intro hz;apply h0
        show(if cV x.cells=true then x.st else x.st+x.st)=0
        split<;>omega
       .cases hy;exact absurd rfl h0
     have hwf:WF (H.graft H1):=by
      refine⟨?_,λc x hx=>?_⟩
      .show((List.range (H1.n-H.n)).map _++H.l).length=H1.n
       have:=I.wf.len;have q1':H.n<=H1.n:=q1;simp;omega
      .by_cases hc:c<H.n
       .rw[hold c hc]at hx;exact I.wf.fam c x hx
       .rw[hnew c aa]at hx;exact q2.fam c x hx
     have hnf:∀{c x f},H.n<=c->H1.get c=some x->x.st≠0->f<H.n->x.fam≠f:=λhc hx h0 hf=>N6 (H0:=H.bare Y.X B) q7 q8 hc hx h0 hf
     let F2:Nat->Prop:=λc=>F c∨(F1 c∧H.n<=c)
     obtain ⟨I2,S2⟩:=I.call (H':=H.graft H1) (F':=F2) q1 hwf hold (λc hc=>.inl hc) (λc hc=>hc.imp id (·.2)) (λc hc=>by
       rcases hc with hc|⟨hc,hn⟩
       .have:=I.lt c (.inl hc);exact⟨Z0 this q1,by rw[hold c this];exact I.fb c hc⟩
       .obtain⟨k1,k2⟩:=q6 c hc;exact⟨k1,by rw[hnew c hn];exact k2⟩) (λc x hn hx h0 g y hg hy _=>by
       rw[hnew c hn]at hx;have:=I.wf.fam g y hy;exact hnf hn hx h0 aa) (λr hr hk c x hx h0 hc=>by
       by_cases hcn:c<H.n
       .rw[hold c hcn]at hx;exact hk c x hx h0 hc
       .rw[hnew c aa]at hx;exact hnf aa hx h0 hr)
     have hle:LeF F1 F2 H1 (H.graft H1):=by
      refine⟨λc hc=>?_,λc hc=>?_,λc x hx h0=>?_⟩
      .rcases q5 c hc with hc'|hc'
       .exact .inl hc'.1
       .exact .inr ⟨hc,hc'⟩
      .rcases q5 c hc with hc'|hc'
       .have:=I.lt c (.inl hc'.1);rw[hold c this,q3 c this,hc'.2.2.2]
       .exact hnew c hc'
      .by_cases hcn:c<H.n
       .rw[q3 c hcn]at hx;obtain⟨y,hy,hy0,_⟩:=hst hx h0;exact⟨y,by rw[hold c hcn];exact hy,hy0⟩
       .exact⟨x,by rw[hnew c aa];exact hx,h0⟩
     refine⟨n,v,F2,w,H.graft H1,?_,hk,I2,S2,RV.mono hle (mP.refl φ h) _ _ (q9 φ h)⟩;have hpl:cV (c.args.toList.map (Am.ev Y.X a))=true:=zz hp ra;unfold oo;rw[hc];simp only[om,hf];rw[show Am.ev Y.X a f=_ from hfv];simp only[Array.toList_map,List.nil_append,Zm,hpl,if_true,q0]
    .cases hk
   .cases hk
  .cases hk
 .cases hk
theorem NF(hY:YOk Y){C:CC}(hC:COk Y C)(g:pN Y F H)(I:Inv φ F G H h){dr:Bool}{act:Act}{o:Oper}{nt:Nat}(ho:ER Y nt o=true){env:Env}{a:LvQ}(e:iK φ F H h env a)
  {rid:Option Nat} (R:Ip Y.X.P φ F G H h o.op rid) {k:V->Hp->Prop} (hk:opD Y C dr act o env h k) :
  ∃n,bV (dr=true∧(pD o.op=true∨uW o.op=true)) φ F G H h k (qj Y.X (d8 Y.X n) rid H a o):=by
 by_cases hc:∃c,o.op=.call c∧je c.callee=false
 .obtain⟨c,hc,hb⟩:=hc
  have hopd:o.op.operands.all okX=true:=by
   simp only[ER,Z7]at ho;exact ho.1.2
  rw[hc]at hopd
  have hx:∀x∈c.operands.toList,okX x=true:=λx hx=>by
   rw[<-Array.all_toList,Z1]at hopd;exact hopd x hx
  obtain⟨cal,args,ats⟩:=c;cases cal with
  |builtin b=>trivial
  | invoke r m=>
   grind[opD]
  | value f=>
   unfold opD at hk;rw[hc]at hk;have rf:=bN g e (hx f (by simp[Call.operands]));have ra:=u7 g e (l:=args.toList) λx h=>hx x (by simp[Call.operands,h])
   have fin:∀{g1 x y n},Am.ev Y.X a f=.func (.func g1) ⟨x⟩ ⟨y⟩->bV (dr=true∧(pD o.op=true∨uW o.op=true)) φ F G H h k (d8 Y.X n g1 (x++args.toList.map (Am.ev Y.X a)++y) H) ->
     ∃n,bV (dr=true∧(pD o.op=true∨uW o.op=true)) φ F G H h k (qj Y.X (d8 Y.X n) rid H a o):=by
    intro g1 x y n hf p;refine⟨n,?_⟩;unfold qj;rw[hc];simp only[je,Zh,if_false,om];rw[show Am.ev Y.X a f=_ from hf];rw[hc]at p;simpa using p
   dsimp only at hk;split at hk
   .split at hk
    .obtain⟨g1,x,y,hf,n,p⟩:=XO hC.i g I hk rf ra (U:=true=true∧(pD o.op=true∨uW o.op=true))
     grind
    .obtain⟨g1,x,y,hf,n,p⟩:=abe hC.i g I hk rf ra;exact fin hf (bV.weak p ac)
   .obtain⟨g1,x,y,hf,n,p⟩:=abd hC.p g I hk rf ra (U:=dr=true∧(pD o.op=true∨uW o.op=true))
    grind
 ·have hd:∀n,qj Y.X (d8 Y.X n) rid H a o=opV Y.X rid H a o:=λn=>by
   unfold qj;split
   .rename_i c hoc;split
    .rfl
    grind
   .rfl
  refine⟨0,?_⟩;rw[hd]
  obtain ⟨v,h',φ',F',w,H',q1,q2,q3,q4,q5,q6⟩:=aah hY g I ho e R hk λc hoc=>by
   cases hb:je c.callee with
   |true=>rfl
   |false=>grind
  refine⟨v,h',φ',F',w,H',q1,q2,q3,q4,q5,λu=>?_⟩;obtain⟨u1,u2|u2⟩:=u
  .grind
  .unfold uW at u2
   grind
end
def jR(Y:kA)(nt:Nat):Code->Bool
 |.region _ ops _=>ops.toList.all (ER Y nt)
 |.seq x y=>jR Y nt x&&jR Y nt y
 |.cond c x y=>okX c&&jR Y nt x&&jR Y nt y
 |.block _ c|.loop c|.scope c=>jR Y nt c
 |.rangeFunc g ps x y=>okX g&&ps.toList.all (λt=>decide (t<nt))&&jR Y nt x&&jR Y nt y
 |_=>true
section
variable{Y:kA}{φ:LnQ}{F G:Nat->Prop}{H:AH}{h:Hp}
theorem Inv.weakG(I:Inv φ F G H h)(hs:∀c,G' c->G c)(hk:∀r,G r->¬G' r->mY H r∧∀x,H.get r=some x->x.st≠0->x.fam=r):Inv φ F G' H h where
 len:=I.len
 blk:=I.blk
 lt c hc:=I.lt c (hc.imp id (hs c))
 fb:=I.fb
 priv i e b hi ho c hc:=I.priv i e b hi ho c (hc.imp id (hs c))
 inj:=I.inj
 sep c x g y hx h0 hc hg hy hy0:=by
  by_cases hG:G c
  .obtain⟨h1,h2⟩:=hk c hG hc;rw[h2 x hx h0];exact λe=>h1 g y hy hy0 (by grind) e.symm
  .exact I.sep c x g y hx h0 hG (hs g hg) hy hy0
 wf:=I.wf
theorem Stp.weakG(S:Stp G φ F H h φ' F' H' h')(hs:∀c,G' c->G c):Stp G' φ F H h φ' F' H' h' where
 n:=S.n
 keep c hc:=S.keep c (hc.imp id (hs c))
 fm:=S.fm
 fn c hc:=(S.fn c hc).imp id λhg hg'=>hg (hs c hg')
 born:=S.born
 nokin r hr:=S.nokin r (hs r hr)
 hl:=S.hl
 sl:=S.sl
theorem ZW{H:AH}(w:WF H)(w':WF H')(hn:H.n<=H'.n)(hk:∀c,c<H.n->H'.get c=H.get c):preB H H'=true:=by
 have hl:H'.l.drop (H'.n-H.n)=H.l:=by
  apply Yk;intro i;rw[List.getElem?_drop];by_cases hi:i<H.n
  .have:=hk (H.n-1-i) aa;rw[AH.get_pos aa,AH.get_pos aa]at this;rw[show H'.n-1-(H.n-1-i)=H'.n-H.n+i by omega,show H.n-1-(H.n-1-i)=i by omega]at this;omega
  .rw[List.getElem?_eq_none (by grind[WF.len]),List.getElem?_eq_none (by rw[w.len];omega)]
 unfold preB;rw[hl]
 have:∀l:List Blk,tY l l=true:=by
  intro l
  induction l with
  |nil=>rfl
  |cons x l ih=>simp[tY,ih]
 grind
def Rs(base:Option Nat)(n i c:Nat):Prop:=match base with
 |none=>False
 |some B=>B+i<=c∧c<B+n
def Kept(P:Program)(ops:List Oper)(base:Option Nat)(i:Nat)(F:Nat->Prop)(H:AH):Prop:=∀B,base=some B->∀j o,ops[j]?=some o->i<=j->H.get (B+j)=some (sh P (B+j) o)∧mY H (B+j)∧¬F (B+j)
theorem HV(P:Program)(b:Nat)(o:Oper):(sh P b o).st≠0->(sh P b o).fam=b:=by
 unfold sh;split
 .split
  .intro _;rfl
  .intro h;trivial
 .intro h;trivial
theorem VO{P:Program}{ops:List Oper}{base:Option Nat}{i:Nat}{o:Oper}(K:Kept P ops base i F H)(ho:ops[i]?=some o){n:Nat}(hn:n=ops.length){F0:Nat->Prop}{φ0:LnQ}
  (I:Inv φ F (λc=>G c∨Rs base n (i+1) c) H h) (hG:∀B,base=some B->¬G (B+i)) (hS:∀B,base=some B->∀j e b,h[j]?=some (e,b)->Own b->φ.getD j 0≠B+i)
  (hz:∀t,o.op=.alloc t->∃z,iH P t=some z):Ip P φ F (λc=>G c∨Rs base n (i+1) c) H h o.op (base.map (· + i)):=by
 cases base with
 | none=>
  have:∀q:Op,Ip P φ F (λc=>G c∨Rs none n (i+1) c) H h q none:=by
   intro q;cases q<;>exact λr hr=>by cases hr
  grind
 | some B=>
  obtain⟨k1,k2,k3⟩:=K B rfl i o ho (Z8 _)
  have nG:¬(G (B+i)∨Rs (some B) n (i+1) (B+i)):=by
   rintro(hg|hg)
   .grind
   .grind[Rs]
  have un:(∀t,o.op≠.alloc t)->GY (λc=>G c∨Rs (some B) n (i+1) c) H (some (B+i)):=by
   intro hna r hr;cases hr;refine⟨⟨qJ,?_,rfl,rfl⟩,nG,k2⟩;rw[k1];unfold sh;split
   .grind
   .rfl
  show Ip P φ F _ H h o.op (some (B+i))
  cases hop:o.op
  case alloc t=>
   obtain⟨z,hz⟩:=hz t hop;refine⟨⟨AH.get_lt k1,k3,nG,hS B rfl,k2⟩,z,hz,?_⟩
   grind[sh]
  all_goals exact un (by intro t e;rw[hop]at e;cases e)
theorem Ir(e:iK φ F H h env a){b:Bool}(hc:MB ops.toList env j=.d (.bool b)):eU ops a j=some b:=by
 unfold MB at hc;unfold eU;rw[Array.getElem?_toList]at hc;split at hc
 .rename_i o ho;rw[ho];split at hc
  .rename_i t ht;have:=e t;rw[hc,kC,oO,Z6]at this;simp only[Option.bind_some,ht];cases hq:a[t]? with
   |none=>rw[hq]at this;cases this
   |some v=>grind
  trivial
 trivial
theorem KX(φ:LnQ)(F:Nat->Prop)(H:AH)(h:Hp):RV φ F H h (.tup []) undef:=by simp only[RV];exact⟨[],rfl,rfl⟩
theorem Gd(e:iK φ F H h env a)(hc:MB ops.toList env j=.tup []):eU ops a j=none:=by
 unfold MB at hc;unfold eU;rw[Array.getElem?_toList]at hc;split at hc
 .rename_i o ho;rw[ho];split at hc
  .rename_i t ht;have:=e t;rw[hc,oO,Z6]at this;simp only[RV]at this;obtain⟨ws,hw,_⟩:=this;simp only[Option.bind_some,ht];cases hq:a[t]? with
   |none=>rfl
   |some v=>grind
  trivial
 trivial
theorem abU{x:V}{P:Prop}:∀{ys:List V},sp h x ys P->(∀y∈ys,apt h x y=true)∧P
 |[],hs=>⟨λ_ hy=>by simp at hy,hs⟩
 | y::ys,hs=>by
  unfold sp at hs;split at hs
  .rename_i hb;obtain⟨h1,h2⟩:=abU hs
   grind
  trivial
theorem OF{P:Program}{ops:Array Oper}{i:Nat}{x:Oper}{j:Nat}{t:TypeId}{p b:Tmp}(hl:(gE P x.op&&unB ops i j)=true)(hx:x.op=.load t (.tmp p))(hr:wA ops p=some b):∀{l:List (Oper×Nat)},(x,j)∈l->b∈unL P ops i l
 | (y,m)::l,hm=>by
  unfold unL;rcases Zu.1 hm with e|hm
  .grind
  .have:=OF hl hx hr hm
   grind
theorem aaL{b:Bk}(hb:ax h s e=b)(hn:b≠.none):h[s]?=some (e,b):=by grind[ax]
theorem aaf(hb:Rn h s e tot=true):∃n cs ex,h[s]?=some (e,.data n cs ex false)∧sv (ax h s e)=some tot:=by
 unfold Rn at hb;split at hb
 .rename_i n cs ex hc;exact⟨n,cs,ex,aaL hc (λq=>by cases q),by rw[hc];exact congrArg some (Zl hb)⟩
 trivial
theorem ownB_of(hb:ownB h s e tot=true):∃cs,h[s]?=some (e,.vars cs)∧sv (ax h s e)=some tot:=by
 unfold ownB at hb;split at hb
 .rename_i cs hc;refine⟨cs,?_,?_⟩
  .grind[ax]
  .rw[hc];exact congrArg some (Zl hb)
 trivial
theorem yY{vs:LvQ}(hw:kE H b off vs=some H1)(hy:H.get b'=some y)(hne:b'≠b)(hf:∀x,H.get b=some x->y.fam≠x.fam):H1.get b'=some y:=by
 unfold kE at hw;split at hw
 .rename_i x hx;split at hw
  .simp only[Z9]at hw;subst hw
   have k:(if x.shared=true then H.kill (kin b x.fam)else H).get b'=some y:=by
    split
    .rw[AH.get_kill,hy,Option.map_some]
     have:kin b x.fam b' y=false:=by
      unfold kin;have:(y.fam == x.fam)=false:=by simpa using hf x hx
      simp[this]
     grind
    .exact hy
   have k2:∃z,(if x.shared=true then H.kill (kin b x.fam)else H).get b=some z:=by
    split
    .grind[AH.get_kill]
    .grind
   grind[AH.get_set]
  trivial
 trivial
theorem afG{K:Prop}(hg:gt P dr ops o env h K):(∀t p b,dr=true->o.op=.load t (.tmp p)->yM ops p=true->wA ops p=some b->zI P ops=true->smB h (lk env b) (lk env p)=true)∧K:=by
 unfold gt at hg;split at hg
 .grind[sm]
 grind
theorem yr(hy:H.get b'=some y):(H.push x).get b'=some y:=by grind[AH.get_push_old,AH.get_lt]
theorem GX{P:Program}{H1:AH}{n by_:Nat}{s v:Value}{k:Nat}{cs:LvQ}{b':Nat}{y:Blk}(hv:bU P H n by_ s k cs=some (v,H1))(hy:H.get b'=some y)
  (hf:∀c,iL s=some c->b'≠c∧∀z,H.get c=some z->y.fam≠z.fam):H1.get b'=some y:=by
 unfold bU at hv;split at hv
 .grind[yr]
 .rename_i b off len cap;obtain⟨f1,f2⟩:=hf b rfl;split at hv
  .cases hv
  split at hv
  .grind
  split at hv
  .grind[yY]
  split at hv
  case isFalse=>cases hv
  split at hv
  case h_2=>cases hv
  rename_i x hx;split at hv
  case isFalse=>cases hv
  rename_i hlive;split at hv
  .grind[yr]
  split at hv
  case isFalse=>cases hv
  cases hv;refine yr ?_;rw[AH.get_kill,AH.get_set hx,if_neg f1,hy,Option.map_some]
  have:∀m,beyond b x.fam m b' y=false:=λm=>by
   unfold beyond;have:(y.fam == x.fam)=false:=by simpa using f2 x hx
   grind
  grind
 trivial
theorem Si{cf:iA}{n:Option Nat}(hw:G2 ops o.op=true)(q1:qj Y.X cf n H a o=some (w,H1))(e:iK φ F H h env a)(hne:stP o env≠.junk):
  ∃v,RV φ F H h (stP o env) v∧∀b' y,H.get b'=some y->(∀c,iL v=some c->b'≠c∧∀z,H.get c=some z->y.fam≠z.fam)->H1.get b'=some y:=by
 obtain⟨dst,op,ty,pos,aft,grd⟩:=o;cases op
 case store t x y=>
  cases x with
  | tmp p=>
   refine⟨kq a p,e p,λb' y hy hf=>?_⟩;unfold qj at q1;simp only[opV,Z4,Z5]at q1;obtain⟨H2,hs,_,rfl⟩:=q1;have hs:uD Y.X.P H t (kq a p) _=some H2:=hs;unfold uD at hs;split at hs
   .rename_i b off n g3 _;split at hs
    .rw[g3]at hf;obtain⟨f1,f2⟩:=hf b rfl
     grind[yY]
    trivial
   trivial
  |_=>exact absurd rfl hne
 case call c=>
  obtain⟨cal,args,ats⟩:=c;cases cal with
  |value f=>trivial
  |invoke r m=>trivial
  | builtin b=>
   cases b<;>try(simp[G2]at hw;done)
   have hsp:stP ⟨dst,.call ⟨.builtin .append,args,ats⟩,ty,pos,aft,grd⟩ env=(match args.toList with|.tmp p::_=>lk env p|_=>.junk):=rfl;rw[hsp]at hne ⊢;split at hne
   .rename_i p rest hargs;refine⟨kq a p,e p,λb' y hy hf=>?_⟩;unfold qj at q1;simp only[je,if_true,opV]at q1;rw[Array.toList_map,hargs,Zv]at q1;have hq:bC Y.X.P H .append ats ty (kq a p::rest.map (Am.ev Y.X a))=some (w,H1):=q1;cases rest with
    |nil=>trivial
    | cons y r=>
     cases r with
     |cons z r=>trivial
     | nil=>
      simp only[Zv,Yv,bC]at hq
      repeat' (split at hq)
      all_goals first
       |(cases hq;done)
       |exact GX hq hy hf
   trivial
 all_goals(simp[G2]at hw)
theorem E7(hY:YOk Y){C:CC}(hC:COk Y C){nt:Nat}{ops:Array Oper}(hops:∀o∈ops.toList,ER Y nt o=true){dr:Bool}{base:Option Nat}(hdr:base.isSome=dr)(hchk:dr=true->aal Y.X.P ops=true)
  {k:Env->Hp->Prop}:∀(l:List Oper)(i:Nat)(acts:List Act)(φ:LnQ)(F:Nat->Prop)(H:AH)(h:Hp)(env:Env)(a:LvQ),
  (∀j,l[j]?=ops.toList[i+j]?)->nt<=a.length->pN Y F H->Inv φ F (λc=>G c∨Rs base ops.toList.length i c) H h->(∀B,base=some B->∀c,G c->c<B)->(∀B,base=some B->∀g cs,Y.glob g=some cs->g<B)->Kept Y.X.P ops.toList base i F H->iK φ F H h env a ->
  rgn Y C dr ops acts l env h k ->
  ∃n a' H' env' h' φ' F',sF Y.X (d8 Y.X n) ops base i l a H=some (a',H')∧k env' h'∧Inv φ' F' G H' h'∧Stp G φ F H h φ' F' H' h'∧iK φ' F' H' h' env' a'∧a'.length=a.length
 | [],i,acts,φ,F,H,h,env,a,hl,hnt,g,I,hB,hGB,K,e,hk=>by
  refine⟨0,a,H,env,h,φ,F,rfl,by trivial,?_,Stp.refl ..,e,rfl⟩
  have hi:ops.toList.length<=i:=by
   have:=hl 0;simpa using this
  refine I.weakG (λc hc=>.inl hc) λr hr hn=>?_
  rcases hr with hr|hr
  .trivial
  .unfold Rs at hr;split at hr
   .trivial
   .omega
 | o::l,i,acts,φ,F,H,h,env,a,hl,hnt,g,I,hB,hGB,K,e,hk=>by
  have hoi:ops.toList[i]?=some o:=by have:=hl 0;simpa using this.symm
  have hmem:o∈ops.toList:=Yh hoi;have ho:=hops o hmem;have hi:i<ops.toList.length:=bj hoi
  have hdst:∀t,o.dst=some t->t<a.length:=by
   intro t ht;simp only[ER,ht,Z7,decide_eq_true_eq]at ho;exact Z0 ho.1.1 hnt
  -- what is kept for this operation leaves the ward
  have I':Inv φ F (λc=>G c∨Rs base ops.toList.length (i+1) c) H h:=by
   refine I.weakG (λc hc=>hc.imp id λhr=>?_) λr hr hn=>?_
   .unfold Rs at hr ⊢
    grind
   .rcases hr with hr|hr
    .grind
    .unfold Rs at hr hn;cases base with
     |none=>trivial
     | some B=>
      simp only at hr hn
      have:r=B+i:=by
       have:=λhh=>hn (.inr hh)
       omega
      subst this;obtain⟨k1,k2,_⟩:=K B rfl i o hoi (Z8 _)
      grind[HV]
  have R:Ip Y.X.P φ F (λc=>G c∨Rs base ops.toList.length (i+1) c) H h o.op (base.map (· + i)):=by
   refine VO K hoi rfl (F0:=F) (φ0:=φ) I' (λB hb hg=>?_) (λB hb j e' b hj hob=>?_) λt ht=>?_
   .grind
   .have:=(I.priv j e' b hj hob (B+i) (.inr (.inr (by grind[Rs])))).1;omega
   .grind[ER,lE]
  have next:∀{φ1 F1 H1 h1 env1} {a1:LvQ},Inv φ1 F1 (λc=>G c∨Rs base ops.toList.length (i+1) c) H1 h1->Stp (λc=>G c∨Rs base ops.toList.length (i+1) c) φ F H h φ1 F1 H1 h1 ->
    iK φ1 F1 H1 h1 env1 a1->a1.length=a.length->rgn Y C dr ops (aeg (takes o.op) acts) l env1 h1 k ->
    ∃n a' H' env' h' φ' F',sF Y.X (d8 Y.X n) ops base (i+1) l a1 H1=some (a',H')∧k env' h'∧Inv φ' F' G H' h'∧Stp G φ F H h φ' F' H' h'∧iK φ' F' H' h' env' a'∧a'.length=a.length:=by
   intro φ1 F1 H1 h1 env1 a1 I1 S1 e1 hlen hk1
   have K1:Kept Y.X.P ops.toList base (i+1) F1 H1:=by
    intro B hb j q hq hij;obtain⟨k1,k2,k3⟩:=K B hb j q hq aa;have hr:Rs base ops.toList.length (i+1) (B+j):=by subst hb;simp only[Rs];have:=bj hq;omega
    refine⟨by grind[Stp.keep],S1.nokin _ (.inr hr) k2,λhF=>?_⟩;rcases S1.fn _ hF with hF|hF
    .trivial
    .grind
   obtain ⟨n,a',H',env',h',φ',F',q1,q2,q3,q4,q5,q6⟩:=E7 hY hC hops hdr hchk l (i+1) _ φ1 F1 H1 h1 env1 a1 (λj=>by
    have:=hl (j+1)
    grind) aa (g.mono S1.leF) I1 hB hGB K1 e1 hk1
   exact⟨n,a',H',env',h',φ',F',q1,q2,q3,(S1.weakG λc hc=>.inl hc).trans q4,q5,aa⟩
  have run:∀{kk:V->Hp->Prop},opE Y C dr ops (pn (takes o.op) acts) o l env h kk->Region.wanted o (eU ops a)=true ->
    ∃ n v h1 φ1 F1 w H1,eE Y.X (d8 Y.X n) ops base i o a H=some (jB a o.dst w,H1)∧kk v h1∧Inv φ1 F1 (λc=>G c∨Rs base ops.toList.length (i+1) c) H1 h1 ∧
     Stp (λc=>G c∨Rs base ops.toList.length (i+1) c) φ F H h φ1 F1 H1 h1∧RV φ1 F1 H1 h1 v w:=by
   intro kk hop hw
   have hidx:ops.size-(l.length+1)=i:=by
    have h0:=bj hoi;have h1:=hl l.length;have h2:=hl (l.length+1);rw[List.getElem?_eq_none ac]at h2;have h3:=(List.getElem?_eq_none_iff.1 h2.symm);rw[List.getElem?_eq_getElem ac]at h1;have h4:=bj h1.symm;have h5:ops.toList.length=ops.size:=Array.length_toList;omega
   obtain⟨hgt,hop⟩:=afG hop;obtain⟨hsp,hop⟩:=abU hop;rw[hidx]at hop;cases hsol:(dr&&sH ops i o.op)with
   | true=>
    rw[hsol]at hop;simp only[Z7]at hsol;obtain⟨hd,hsl⟩:=hsol
    obtain ⟨B,rfl⟩:∃B,base=some B:=by
     cases base with
     |none=>rw[<-hdr]at hd;cases hd
     |some B=>exact⟨B,rfl⟩
    obtain⟨n,v,F1,w,H1,q1,q2,q3,q4,q5⟩:=ZE hC.p g I' (hGB B rfl) ho e hop
    have hg:sW Y.X.P ops o a=true:=by
     have:yc o.op=true:=by unfold sH at hsl;grind
     unfold sW;split
     .rename_i hop2;rw[hop2]at this;cases this
     .rfl
    exact⟨n,v,h,φ,F1,w,H1,by unfold eE;rw[if_pos hw,wQ (BZ _) hsl hg,q1],q2,q3,q4,q5⟩
   |false=>
   rw[hsol]at hop;obtain⟨act',hop⟩:=SC hop;obtain⟨n,v,h1,φ1,F1,w,H1,q1,q2,q3,q4,q5,q6⟩:=NF hY hC g I' ho e R hop;refine⟨n,v,h1,φ1,F1,w,H1,?_,q2,q3,q4,q5⟩;unfold eE;rw[if_pos hw];unfold dop;rw[WI (by rw[hdr];exact hsol),q1];simp only;rw[if_neg];intro hc;rw[Z7]at hc;obtain⟨hb,hc⟩:=hc;have hd:dr=true:=by rw[<-hdr];exact hb
   -- a read goes where it is said to go
   have hgate:sW Y.X.P ops o a=true:=by
    unfold sW;split
    .rename_i t p hopr;cases hm:zI Y.X.P ops with
     |false=>rfl
     | true=>
      simp only[Wx,Ww];split
      .rename_i b hr;cases hdp:yM ops p with
       | false=>
        have:wA ops p=some p:=by unfold wA Cf;rw[hdp]
        grind
       | true=>
        have k1:=hgt t p b hd hopr hdp hr hm;have e1:=e p;have e2:=e b;unfold smB at k1
        grind[Zl,ownB_of,RV,iL]
      .rfl
    .rfl
   simp only[hgate,Wx,Ww,Z7,Y5]at hc;obtain⟨⟨hch,hpre⟩,hoff⟩:=hc;have this:=Z1.1 (hchk hd) (o,i) (Yi.2 hoi);simp only[hch,Wx,Ww,X9]at this;cases hst:aaj Y.X.P ops i o.op with
   | false=>
    have hda:drA Y.X.P dr ops o l=true:=by unfold drA;rw[hd,hidx,hch,hst];rfl
    grind[ZW,Inv.wf,Stp.n]
   | true=>
    unfold aaj at hst;split at hst
    .rename_i hwant
     have hmode:zI Y.X.P ops=true:=by
      unfold zI;rw[List.any_eq_true];exact⟨(o,i),Yi.2 hoi,by grind⟩
     have:Go.Am.offB Y.X.P ops i a H H1=true:=by
      unfold Go.Am.offB;rw[Z1];rintro⟨x,j⟩ hx;have h2:=Z1.1 hst (x,j) hx;cases hlu:(gE Y.X.P x.op&&unB ops i j)with
      |false=>grind
      | true=>
       simp only[hlu,Wx,Ww]at h2 ⊢;split at h2
       .rename_i t' p' hx';cases hr:wA ops p' with
        |none=>grind
        | some b'=>
         simp only[hx',hr]
         have hp':lk env b'∈(drS Y.X.P dr ops o l).map (lk env):=by
          refine Zw.2 ⟨b',?_,rfl⟩;unfold drS;rw[hd,hwant];simp only[Xd,hidx];exact OF hlu hx' hr hx
         have hap:=hsp _ hp';have hne:stP o env≠.junk:=λq=>by rw[q]at hap;cases hap
         obtain⟨v0,r0,hoth⟩:=Si hwant q1 e hne;have e2:=e b'
         -- the slot that is read
         have fin:∀{s2 ee2 o2 tt2:Nat},lk env b'=.ptr s2 ee2 o2 tt2->ownB h s2 ee2 tt2=true->(∀cs y,h[s2]?=some (ee2,.vars cs)->H.get (φ.getD s2 0)=some y->∀c,iL v0=some c->φ.getD s2 0≠c∧∀z,H.get c=some z->y.fam≠z.fam)->sameAt H H1 (kq a b')=true:=by
          intro s2 ee2 o2 tt2 g2 k3 hh;obtain⟨c2,m2,n2⟩:=ownB_of k3;rw[g2]at e2;simp only[RV]at e2;have w2:=(e2.2.2 _ n2).2 rfl;obtain⟨y,hy,_⟩:=I.blk s2 ee2 _ m2;have:=hoth _ y hy (hh c2 y m2 hy);unfold sameAt;rw[w2];simp only[iL,hy,this,beq_self_eq_true]
         unfold apt at hap;split at hap
         .rename_i s1 ee1 o1 tt1 s2 ee2 o2 tt2 g1 g2;simp only[Z7,Y5]at hap;obtain⟨⟨k1,k2⟩,k3⟩:=hap;obtain⟨c1,m1,n1⟩:=ownB_of k2;refine fin g2 k3 λcs y m2 hy c hc=>?_
          rw[g1]at r0;simp only[RV]at r0;rw[(r0.2.2 _ n1).2 rfl]at hc;simp only[iL,Z9]at hc;subst hc;have hne:s1≠s2:=λq=>by grind[X2]
          obtain⟨i1,i2⟩:=I.inj s2 ee2 _ s1 ee1 _ m2 trivial m1 trivial (λq=>hne q.symm)
          grind
         .rename_i s1 ee1 _ _ _ tt1 s2 ee2 o2 tt2 g1 g2;simp only[Z7,Y5]at hap;obtain⟨⟨k1,k2⟩,k3⟩:=hap;obtain⟨n1',c1,ex1,m1,n1⟩:=aaf k2;refine fin g2 k3 λcs y m2 hy c hc=>?_
          rw[g1]at r0;simp only[RV]at r0;rw[(r0.2.2 _ n1).2 rfl]at hc;simp only[iL,Z9]at hc;subst hc;have hne:s1≠s2:=λq=>by grind
          obtain⟨i1,i2⟩:=I.inj s2 ee2 _ s1 ee1 _ m2 trivial m1 rfl (λq=>hne q.symm)
          grind
         .rename_i g1 g2;refine fin g2 hap λcs y m2 hy c hc=>?_
          rw[g1]at r0;simp only[RV,RD]at r0;rw[r0.1]at hc;cases hc
         trivial
       trivial
     grind
    trivial
  have fin:∀{kk:V->Hp->Prop},(∀v h1,kk v h1->rgn Y C dr ops (aeg (takes o.op) acts) l (ZV env o.dst v) h1 k)->opE Y C dr ops (pn (takes o.op) acts) o l env h kk->Region.wanted o (eU ops a)=true ->
    ∃n a' H' env' h' φ' F',sF Y.X (d8 Y.X n) ops base i (o::l) a H=some (a',H')∧k env' h'∧Inv φ' F' G H' h'∧Stp G φ F H h φ' F' H' h'∧iK φ' F' H' h' env' a'∧a'.length=a.length:=by
   intro kk hkk hop hw;obtain⟨n,v,h1,φ1,F1,w,H1,q1,q2,q3,q4,q5⟩:=run hop hw;have hlen:(jB a o.dst w).length=a.length:=by unfold jB;split<;>simp
   obtain⟨m,a',H',env',h',φ',F',r1,r2,r3,r4,r5,r6⟩:=next q3 q4 ((e.mono q4.leF q4.sl).put hdst q5) hlen (hkk v h1 q2)
   refine⟨max n m,a',H',env',h',φ',F',?_,r2,r3,r4,r5,r6⟩;unfold sF;rw[Ek (oH _ (Nat.le_max_left n m)) q1];exact A8 (oH _ (Nat.le_max_right n m)) r1
  unfold rgn at hk;rw[aeR]at hk;split at hk
  .grind[Region.wanted]
  .rename_i j w hg;unfold gd at hk;split at hk
   .rename_i b hb;have hy:=Ir e hb;split at hk
    .grind[Region.wanted]
    .rename_i hbw
     have hw:Region.wanted o (eU ops a)=false:=by
      unfold Region.wanted;rw[hg];simp only[hy];simpa using hbw
     have hlen:(jB a o.dst undef).length=a.length:=by unfold jB;split<;>simp
     obtain⟨m,a',H',env',h',φ',F',r1,r2,r3,r4,r5,r6⟩:=next I' (Stp.refl ..) (e.put hdst (KX φ F H h)) hlen hk
     grind[sF,eE]
   .rename_i hb;have hy:=Gd e hb
    have hw:Region.wanted o (eU ops a)=false:=by
     unfold Region.wanted;rw[hg];simp[hy]
    have hlen:(jB a o.dst undef).length=a.length:=by unfold jB;split<;>simp
    obtain⟨m,a',H',env',h',φ',F',r1,r2,r3,r4,r5,r6⟩:=next I' (Stp.refl ..) (e.put hdst (KX φ F H h)) hlen hk
    grind[sF,eE]
   trivial
end
def qC(env:Env)(ks:LnQ):Env:=ks.map λt=>(t,lk env t)
def CL(env:Env):LnQ->Nat->List V->Env
 |[],_,_=>env
 |t::ts,i,vs=>CL ((t,ge vs i)::env) ts (i+1) vs
theorem zU(env:Env):∀(ks:LnQ)(k:Env->Prop),Co env ks k=k (qC env ks)
 |[],_=>rfl
 |t::ts,k=>by simp only[Co,Jn,zU env ts,qC,Zv]
theorem Dg:∀(ts:LnQ)(env:Env)(i:Nat)(vs:List V)(k:Env->Prop),Nz env ts i vs k=k (CL env ts i vs)
 |[],_,_,_,_=>rfl
 |t::ts,env,i,vs,k=>by simp only[Nz,CL];exact Dg ts _ _ vs k
theorem LR(env:Env)(ks:LnQ)(t:Nat):lk (qC env ks) t=.junk∨(t∈ks∧lk (qC env ks) t=lk env t):=by
 induction ks with
 |nil=>exact .inl rfl
 | cons s ks ih=>
  show lk ((s,lk env s)::qC env ks) t=.junk∨_∧lk ((s,lk env s)::qC env ks) t=_
  rw[xk];split
  .rename_i h;subst h;exact .inr ⟨ac,rfl⟩
  grind
theorem PE:∀(ts:LnQ)(env:Env)(i:Nat)(vs:List V)(t:Nat),lk (CL env ts i vs) t=lk env t∨∃j,ts[j]?=some t∧lk (CL env ts i vs) t=ge vs (i+j)
 |[],_,_,_,_=>.inl rfl
 | s::ts,env,i,vs,t=>by
  rcases PE ts ((s,ge vs i)::env) (i+1) vs t with h|⟨j,h1,h2⟩
  .rw[xk]at h;split at h
   .rename_i e;subst e;exact .inr ⟨0,rfl,h⟩
   .exact .inl h
  .exact .inr ⟨j+1,h1,by rw[show i+(j+1)=i+1+j by omega];exact h2⟩
theorem JC(l:LnQ)(env:Env)(j t:Nat)(h:l[j]?=some t):ge (l.map (lk env)) j=lk env t:=by
 induction l generalizing j with
 |nil=>simp at h
 | cons s l ih=>
  cases j with
  |zero=>simp only[List.getElem?_cons_zero,Z9]at h;subst h;rfl
  |succ j=>simp only[List.getElem?_cons_succ]at h;exact ih j h
section
variable{Y:kA}{φ:LnQ}{F G:Nat->Prop}{H:AH}{h:Hp}
theorem iK.join{env1:Env}{keep:LnQ}(h1:∀t∈keep,RV φ F H h (lk env t) (kq a t)){vs:List V}(h2:∀j t,outs[j]?=some t->RV φ F H h (ge vs j) (kq a t)):
  iK φ F H h (CL (qC env keep) outs 0 vs) a:=by
 intro t
 grind[PE,LR,RV]
theorem yx{l:LnQ}(hn:wG ahZ l=true){t:Nat}(ht:t∈l):t ∉ ahZ:=by
 induction l with
 |nil=>cases ht
 | cons s l ih=>
  grind[wG,X2]
theorem QU{X:Cfg}{cf:iA}{H:AH}(h:eE X cf ops base i o a H=some (a',H'))(t:Nat)(ht:∀d,o.dst=some d->t≠d):kq a' t=kq a t:=by
 have hp:∀v,kq (jB a o.dst v) t=kq a t:=by
  intro v;unfold jB;split
  .grind[oO]
  .rfl
 grind[eE]
theorem KY{X:Cfg}{cf:iA}{ops:Array Oper}{base:Option Nat}:∀{l:List Oper}{i:Nat}{a a':LvQ}{H H':AH},sF X cf ops base i l a H=some (a',H')->∀t,t ∉ Ow l->kq a' t=kq a t
 |[],_,_,_,_,_,h,_,_=>by cases h;rfl
 | o::l,i,a,a',H,H',h,t,ht=>by
  unfold sF at h;split at h
  .rename_i a1 H1 hs
   have hd:(∀d,o.dst=some d->t≠d)∧t ∉ Ow l:=by
    unfold Ow at ht;split at ht
    .grind
    .grind
   rw[KY h t hd.2]
   grind[QU]
  .cases h
theorem Nv{X:Cfg}{cf:iA}{H:AH}(h:jH X cf ops draw a H=some (a',H'))(t:Nat)(ht:t ∉ Ow ops.toList):kq a' t=kq a t:=by grind[jH,KY]
theorem K9(P:Program):∀(l:List Oper)(H:AH),WF H->WF (kv P l H)
 |[],_,w=>w
 | o::l,H,w=>by
  refine K9 P l _ (w.push ?_);unfold sh;split
  .split
   .exact Z8 _
   .exact Zc _
  .exact Zc _
theorem Nu(hY:YOk Y){C:CC}(hC:COk Y C){nt:Nat}{ops:Array Oper}(hops:∀o∈ops.toList,ER Y nt o=true){draw:Bool}(hchk:draw=true->aal Y.X.P ops=true)
  {k:Env->Hp->Prop} {acts:List Act} {env:Env} {a:LvQ} (hnt:nt<=a.length) (g:pN Y F H) (I:Inv φ F G H h) (e:iK φ F H h env a) (hk:rgn Y C draw ops acts ops.toList env h k) :
  ∃n a' H' env' h' φ' F',jH Y.X (d8 Y.X n) ops draw a H=some (a',H')∧k env' h'∧Inv φ' F' G H' h'∧Stp G φ F H h φ' F' H' h'∧iK φ' F' H' h' env' a'∧a'.length=a.length:=by
 cases draw with
 | false=>
  obtain ⟨n,a',H',env',h',φ',F',q1,q⟩:=E7 (G:=G) hY hC hops (dr:=false) (base:=none) rfl (λh=>by cases h) ops.toList 0 acts φ F H h env a (λj=>by simp) hnt g (by
   have:(λc=>G c∨Rs none ops.toList.length 0 c)=G:=by funext c;simp[Rs]
   grind) (λB hB=>by cases hB) (λB hB=>by cases hB) (λB hB=>by cases hB) e hk
  exact⟨n,a',H',env',h',φ',F',by unfold jH;rw[if_neg ac];exact q1,q⟩
 | true=>
  have ax:∀b x,H.get b=some x->(kv Y.X.P ops.toList H).get b=some x:=λb x hx=>xf (X:=Y.X) ops.toList H b x hx
  have hn:(kv Y.X.P ops.toList H).n=H.n+ops.toList.length:=IY (X:=Y.X) ops.toList H;have hat:∀i o,ops.toList[i]?=some o->(kv Y.X.P ops.toList H).get (H.n+i)=some (sh Y.X.P (H.n+i) o):=λi o ho=>EI (X:=Y.X) ops.toList H i o ho
  have hw:=K9 Y.X.P ops.toList H I.wf
  have hold:∀c,c<H.n->(kv Y.X.P ops.toList H).get c=H.get c:=λc hc=>by
   obtain⟨x,hx⟩:=I.wf.get_some hc
   grind
  have hnew:∀c x,H.n<=c->(kv Y.X.P ops.toList H).get c=some x->x.st≠0->x.fam=c:=λc x hc hx h0=>by
   have:=AH.get_lt hx;rw[hn]at this;obtain⟨o,ho⟩:∃o,ops.toList[c-H.n]?=some o:=⟨_,List.getElem?_eq_getElem aa⟩;have:=hat _ o ho;rw[show H.n+(c-H.n)=c by omega,hx]at this
   grind[HV]
  have hnk:∀r,mY H r->mY (kv Y.X.P ops.toList H) r:=λr hr c x hx h0 hc=>by
   by_cases hcn:c<H.n
   .rw[hold c hcn]at hx;exact hr c x hx h0 hc
   .rw[hnew c x aa hx h0];exact hc
  have hnk2:∀j,mY (kv Y.X.P ops.toList H) (H.n+j):=λj c x hx h0 hc=>by
   by_cases hcn:c<H.n
   .have:=hw.fam c x hx;omega
   .rw[hnew c x aa hx h0];exact hc
  have hle:LeF F F H (kv Y.X.P ops.toList H):=⟨λ_ hc=>hc,λc hc=>hold c (I.lt c (.inl hc)),λc x hx h0=>⟨x,ax c x hx,h0⟩⟩
  have hS:Stp G φ F H h φ F (kv Y.X.P ops.toList H) h:=
   ⟨aa,λc hc=>hold c (I.lt c hc),λ_ hc=>hc,λ_ hc=>.inl hc,hle.born,λr _=>hnk r,rfl,mP.refl φ h⟩
  have kO:∀i e k,h[i]?=some (e,k)->Own k->(kv Y.X.P ops.toList H).get (φ.getD i 0)=H.get (φ.getD i 0)∧φ.getD i 0<H.n:=λi e k hi ho=>by
   grind[Inv.own_get,AH.get_lt]
  have hI:Inv φ F (λc=>G c∨Rs (some H.n) ops.toList.length 0 c) (kv Y.X.P ops.toList H) h:=by
   refine⟨I.len,?_,?_,λc hc=>by rw[hold c (I.lt c (.inl hc))];exact I.fb c hc,?_,?_,?_,hw⟩
   .intro i e k hi;by_cases ho:Own k
    .exact(I.blk i e k hi).mono hle (mP.refl φ h) (kO i e k hi ho).1
    .cases k with
     |none=>trivial
     |vars cs=>exact absurd trivial ho
     | data n cs ex fr=>
      cases fr with
      |false=>trivial
      |true=>exact(I.blk i e _ hi).mono hle (mP.refl φ h) (hold _ (I.lt _ (.inl (Ab I hi))))
   .rintro c (hc|hc|hc)
    .have:=I.lt c (.inl hc);omega
    .have:=I.lt c (.inr hc);omega
    grind[Rs]
   .intro i e k hi ho c hc;obtain⟨k1,k2⟩:=kO i e k hi ho
    have old:F c∨G c->c≠φ.getD i 0∧∀x y,(kv Y.X.P ops.toList H).get c=some x->(kv Y.X.P ops.toList H).get (φ.getD i 0)=some y->x.st=1->x.fam≠y.fam:=λhc=>by
     obtain⟨p1,p2⟩:=I.priv i e k hi ho c hc
     grind[Inv.lt]
    rcases hc with hc|hc|hc
    .grind
    .grind
    .simp only[Rs]at hc;refine⟨aa,λx y hx hy h1=>?_⟩;rw[hnew c x aa hx aa];rw[k1]at hy;have:=I.wf.fam _ y hy;omega
   .grind[Inv.inj]
   .intro c x q y hx h0 hc hq hy hy0
    have hcn:c<H.n:=by
     have:=AH.get_lt hx;rw[hn]at this;exact Classical.byContradiction λhh=>hc (.inr (by grind[Rs]))
    rw[hold c hcn]at hx;rcases hq with hq|hq
    .rw[hold q (I.lt q (.inr hq))]at hy;exact I.sep c x q y hx h0 (λhG=>hc (.inl hG)) hq hy hy0
    .simp only[Rs]at hq;rw[hnew q y aa hy hy0];have:=I.wf.fam c x hx;omega
  obtain ⟨n,a',H',env',h',φ',F',q1,q2,q3,q4,q5,q6⟩:=E7 (G:=G) hY hC hops (dr:=true) (base:=some H.n) rfl hchk ops.toList 0 acts φ F (kv Y.X.P ops.toList H) h env a (λj=>by simp) hnt (g.mono hle) hI
   (λB hB c hc=>by cases hB;exact I.lt c (.inr hc)) (λB hB i cs hi=>by cases hB;exact I.lt i (.inl (g i cs hi).2.1)) (λB hB j o ho _=>by
    cases hB;exact⟨hat j o ho,hnk2 j,λhF=>by have:=I.lt _ (.inl hF);omega⟩) (e.mono hle (mP.refl φ h)) hk
  grind[jH,Stp.trans]
end
section
variable{Y:kA}{φ:LnQ}{F G:Nat->Prop}{H:AH}{h:Hp}
theorem uf{l:LnQ}:gQ l s=true↔s ∉ l:=by
 induction l with
 |nil=>simp[gQ]
 | cons t l ih=>
  simp only[gQ,Z7,Y5,ih,Zu,not_or];constructor
  .grind[X2]
  .rintro⟨h1,h2⟩;refine⟨?_,h2⟩;cases hb:Nat.beq t s with
   |false=>rfl
   |true=>simp_all
theorem Cg(clr:LnQ):∀(i:Nat)(h0 h:Hp)(j:Nat),(aP clr i h0 h)[j]?=match h0[j]?,h[j]? with
  |some (e0,_),some (e,b)=>some (if gQ clr (i+j)then(e,b)else(e0,.none))
  |none,x=>x
  |_,none=>none
 |_,[],h,j=>by rfl
 | _,(_,_)::_,[],j=>by
  simp only[aP,List.getElem?_nil];split<;>first|rfl|simp_all
 |i,(e0,b0)::h0,(e,b)::h,0=>by rfl
 | i,(e0,b0)::h0,(e,b)::h,j+1=>by
  simp only[aP,List.getElem?_cons_succ];rw[Cg clr (i+1) h0 h j,show i+1+j=i+(j+1) by omega]
theorem xe{h:Hp}(hl:h.length=h0.length){b:Bk}(hj:h[j]?=some (e,b)):
  (j ∉ clr∧(aP clr 0 h0 h)[j]?=some (e,b))∨(j∈clr∧∃e0 b0,h0[j]?=some (e0,b0)∧(aP clr 0 h0 h)[j]?=some (e0,.none)):=by
 have hlt:=bj hj;obtain⟨e0,b0⟩:Nat×Bk:=h0[j]'(by omega);rw[Cg];cases h0j:h0[j]? with
 |none=>grind
 | some p=>
  obtain⟨e0,b0⟩:=p;rw[hj];simp only[Zk];by_cases hc:j∈clr
  .grind[uf]
  .left;exact⟨hc,by rw[if_pos (uf.2 hc)]⟩
theorem px(clr:LnQ):∀(i:Nat)(h0 h:Hp),h.length=h0.length->(aP clr i h0 h).length=h0.length
 |_,[],h,e=>by trivial
 |_,_::_,[],e=>by simp at e
 |i,(_,_)::h0,(_,_)::h,e=>by simp only[aP,List.length_cons]at e ⊢;rw[px clr (i+1) h0 h aa]
theorem uH{h:Hp}(hl:h.length=h0.length)(hj:h[j]?=none):(aP clr 0 h0 h)[j]?=none:=by grind[px]
theorem yo{h:Hp}(hl:h.length=h0.length)(hs:s ∉ clr):(aP clr 0 h0 h)[s]?=h[s]?:=by grind[uH,xe]
mutual
theorem RV.reset{clr:LnQ}{h0:Hp}(hl:h.length=h0.length):∀(x:V)(v:Value),pz clr x=true->RV φ F H h x v->RV φ F H (aP clr 0 h0 h) x v
 |.junk,_,_,_=>by trivial
 |.d x,v,_,hv=>by trivial
 | .ref s e off len cap tot,v,ho,hv=>by
  grind[pz,yo,uf,RV,ep,ax]
 | .ptr s e off tot,v,ho,hv=>by
  grind[pz,yo,uf,RV,ep,ax]
 |.dptr cs pos,v,_,hv=>by trivial
 |.cut n,v,_,hv=>by trivial
 | .agg l,v,ho,hv=>by
  simp only[pz]at ho;simp only[RV]at hv ⊢;obtain⟨ws,e,r⟩:=hv;exact⟨ws,e,RVs.reset hl l ws ho r⟩
 | .tup l,v,ho,hv=>by
  simp only[pz]at ho;simp only[RV]at hv ⊢;obtain⟨ws,e,r⟩:=hv;exact⟨ws,e,RVs.reset hl l ws ho r⟩
 | .fn g fs cs,v,ho,hv=>by
  simp only[pz,Z7]at ho;simp only[RV]at hv ⊢;obtain⟨a,b,e,r,q⟩:=hv;exact⟨a,b,e,RVs.reset hl fs a ho.1 r,RVs.reset hl cs b ho.2 q⟩
 | .ifc t x,v,ho,hv=>by
  simp only[pz]at ho;simp only[RV]at hv ⊢;obtain⟨w,e,r⟩:=hv;exact⟨w,e,RV.reset hl x w ho r⟩
 |.new ..,v,_,hv=>by trivial
theorem RVs.reset{clr:LnQ}{h0:Hp}(hl:h.length=h0.length):∀(xs:List V)(vs:LvQ),ij clr xs=true->RVs φ F H h xs vs->RVs φ F H (aP clr 0 h0 h) xs vs
 |[],vs,_,hv=>by trivial
 | x::xs,vs,ho,hv=>by
  simp only[ij,Z7]at ho;simp only[RVs]at hv ⊢;obtain⟨v,us,e,h1,h2⟩:=hv;exact⟨v,us,e,RV.reset hl x v ho.1 h1,RVs.reset hl xs us ho.2 h2⟩
end
theorem Po{clr:LnQ}:∀{i:Nat}{h:Hp}{j e:Nat}{b:Bk},p6 clr i h=true->h[j]?=some (e,b)->i+j ∉ clr->offB clr b=true
 | i,(e1,b1)::h,0,e,b,ho,hj,hn=>by
  grind[p6,uf]
 | i,(e1,b1)::h,j+1,e,b,ho,hj,hn=>by
  simp only[p6,Z7]at ho;simp only[List.getElem?_cons_succ]at hj;exact Po (i:=i+1) ho.2 hj (by rw[show i+1+j=i+(j+1) by omega];exact hn)
 |_,[],_,_,_,_,hj,_=>by simp at hj
theorem Inv.reset(I:Inv φ F G H h){clr:LnQ}{h0:Hp}(hl:h.length=h0.length)(ho:p6 clr 0 h=true):Inv φ F G H (aP clr 0 h0 h):=by
 have hown:∀i e b,(aP clr 0 h0 h)[i]?=some (e,b)->Own b->i ∉ clr∧h[i]?=some (e,b):=by
  intro i e b hi hob;cases hj:h[i]? with
  |none=>grind[uH]
  | some p=>
   obtain⟨e1,b1⟩:=p;rcases xe hl hj (clr:=clr)with⟨hn,e2⟩|⟨hc,e0,b0,_,e2⟩
   .grind
   .rw[e2]at hi;cases hi;trivial
 refine⟨by rw[px clr 0 h0 h hl];exact I.len.trans hl,?_,I.lt,I.fb,?_,?_,I.sep,I.wf⟩
 .intro i e b hi;cases hj:h[i]? with
  |none=>grind[uH]
  | some p=>
   obtain⟨e1,b1⟩:=p;rcases xe hl hj (clr:=clr)with⟨hn,e2⟩|⟨hc,e0,b0,_,e2⟩
   .rw[e2]at hi;cases hi;have:=I.blk i e b hj;cases b with
    |none=>trivial
    | vars cs=>
     obtain⟨x,hx,h1,h2,h2e,h3⟩:=this;exact⟨x,hx,h1,h2,h2e,RVs.reset hl _ _ (Po ho hj (by grind)) h3⟩
    |data n cs ex fr=>exact this
   .rw[e2]at hi;cases hi;trivial
 .intro i e b hi hob;obtain⟨_,hi⟩:=hown i e b hi hob;exact I.priv i e b hi hob
 .intro i e b j e' b' hi hob hj hob' hij;obtain⟨_,hi⟩:=hown i e b hi hob;obtain⟨_,hj⟩:=hown j e' b' hj hob';exact I.inj i e b j e' b' hi hob hj hob' hij
theorem Stp.reset(S:Stp G φ F H h φ' F' H' h')(clr:LnQ):Stp G φ F H h φ' F' H' (aP clr 0 h h') where
 n:=S.n
 keep:=S.keep
 fm:=S.fm
 fn:=S.fn
 born:=S.born
 nokin:=S.nokin
 hl:=px clr 0 h h' S.hl
 sl s:=by
  obtain⟨a1,a2⟩:=S.sl s;by_cases hs:s∈clr
  .cases hj:h'[s]? with
   | none=>
    have:(aP clr 0 h h')[s]?=h'[s]?:=by rw[hj];exact uH S.hl hj
    grind[ep,ax]
   | some p=>
    obtain⟨e,b⟩:=p;rcases xe S.hl hj (clr:=clr)with⟨hn,_⟩|⟨_,e0,b0,h1,h2⟩
    .trivial
    .have e1:ep h s=e0:=by simp[ep,h1]
     have e2:ep (aP clr 0 h h') s=e0:=by simp[ep,h2]
     refine⟨aa,λ_ m hm=>?_⟩
     grind[ax,sv]
  grind[yo,hl,ep,ax]
def Sim(X:Cfg)(G:Nat->Prop)(φ:LnQ)(F:Nat->Prop)(H:AH)(h:Hp)(al:LvQ)(ahZ:LnQ)(c:Code)(k:K):Prop:=
 ∃n ex al' H' env' h' φ' F',fh X (d8 X n) n c al H=some (ex,al',H')∧k ex env' h'∧Inv φ' F' G H' h'∧Stp G φ F H h φ' F' H' h'∧iK φ' F' H' h' env' al'∧al'.length=al.length∧∀t,t ∉ ahZ->kq al' t=kq al t
theorem Kb{X:Cfg}{c:Code}{i:yW}(hok:okI ahZ i=true)(e:iK φ F H h env al){k:K}{T:K->Prop}(hT:∀k,T k->Sim X G φ F H h al ahZ c k)(hw:wrap i env k T):Sim X G φ F H h al ahZ c k:=by
 unfold wrap at hw;split at hw
 .rename_i outs keep;obtain⟨n,ex,al',H',env',h',φ',F',q1,q2,q3,q4,q5,q6,q7⟩:=hT _ hw;cases ex
  case normal=>
   simp only[zU,Dg]at q2;refine⟨n,_,al',H',_,h',φ',F',q1,q2,q3,q4,iK.join (env1:=env') (λt ht=>?_) (λj t hj=>?_),q6,q7⟩
   .rw[q7 t (yx hok ht)];exact RV.mono q4.leF q4.sl _ _ (e t)
   .rw[JC outs env' j t hj];exact q5 t
  all_goals exact⟨n,_,al',H',env',h',φ',F',q1,q2,q3,q4,q5,q6,q7⟩
 grind
theorem aaM(I:Inv φ F G H h){g:Gh}(hg:ghS g h=some h'):∃F',Inv φ F' G H h'∧Stp G φ F H h φ F' H h':=by
 unfold ghS at hg;split at hg
 .rename_i s;split at hg
  .rename_i e n cs ex hs;split at hg
   .rename_i hc;cases hg;obtain⟨x,hx,h1,h2,h3,h4,h5,h6,h7⟩:=I.blk s e _ hs;refine⟨F,I.swap hs rfl rfl (by simp[sv]) ⟨x,hx,h1,h7 rfl,?_,RVs.ofD h2⟩⟩;cases ex
    .have:n=1:=by simpa[Nat.beq_eq]using hc
     exact this▸h4 rfl
    .exact .inl (h3 (.inr rfl))
   .trivial
  .trivial
 .rename_i s;split at hg
  .rename_i e vs hs;split at hg
   .rename_i ds h1 ht;split at hg
    .rename_i ws hw;cases hg;obtain⟨x,hx,x1,x2,x3,x4⟩:=I.blk s e _ hs;obtain⟨F1,⟨I1,S1⟩,r1⟩:=tS I ht x4;have hs1:=eA ac hw;obtain⟨y,hy,y1,y2,y3,y4⟩:=I1.blk s e _ hs1;have hl1:=r1.length;have hl2:=y4.length;have hxy:x=y:=by rw[hx]at hy;exact Option.some.inj hy
     subst hxy;obtain⟨I2,S2⟩:=I1.swap (b':=.vars (ds.map .d)) hs1 trivial (m:=ws.length) rfl (by simp only[sv,List.length_map];congr 1;omega) ⟨x,hx,x1,x2,x3,RVs.ofD r1⟩;exact⟨F1,I2,S1.trans S2⟩
    .trivial
   .trivial
  .trivial
theorem PX:∀(l:List Gh){F:Nat->Prop}{h:Hp}{k:Hp->Prop},Inv φ F G H h->ghG l h k->∃h' F',k h'∧Inv φ F' G H h'∧Stp G φ F H h φ F' H h'
 |[],F,h,k,I,hk=>⟨h,F,hk,I,Stp.refl ..⟩
 | g::l,F,h,k,I,hk=>by
  unfold ghG at hk;split at hk
  .rename_i h1 hs;obtain⟨F1,I1,S1⟩:=aaM I hs;obtain⟨h2,F2,k2,I2,S2⟩:=PX l I1 hk;exact⟨h2,F2,k2,I2,S1.trans S2⟩
  .trivial
theorem adG(I:Inv φ F G H h){i:yW}(e:iK φ F H h env al){k:Env->Hp->Prop}(hk:ghO i env h k):∃env' h' F',k env' h'∧Inv φ F' G H h'∧Stp G φ F H h φ F' H h'∧iK φ F' H h' env' al:=by
 unfold ghO at hk;split at hk
 .obtain⟨h',F',q1,q2,q3⟩:=PX _ I hk;exact⟨env,h',F',q1,q2,q3,λt=>RV.mono q3.leF q3.sl _ _ (e t)⟩
 .rename_i t;rw[Jn]at hk;unfold fzD at hk;split at hk
  .rename_i x h' ht;obtain⟨F',⟨I',S'⟩,r⟩:=Dc I ht (e t);refine⟨_,h',F',hk,I',S',λu=>?_⟩;rw[xk];split
   .rename_i hu
    first|(subst hu;simpa[RV]using r)|(have:=r;grind[RV])
   .exact RV.mono S'.leF S'.sl _ _ (e u)
  .trivial
 .exact⟨env,h,F,hk,I,Stp.refl ..,e⟩
theorem Wa{l:List (Exit×LnQ×LnQ)}{f:Exit×LnQ×LnQ->List V->Hp->Prop}:∀{ex:Exit}{vs:List V}{h:Hp},exK (l.map λx=>(x.1,f x)) ex vs h->∃x∈l,x.1=ex∧EO l ex=x.2.1∧f x vs h:=by
 induction l with
 |nil=>intro ex vs h hx;trivial
 | cons x l ih=>
  intro ex vs h hx;obtain⟨e0,o,kp⟩:=x;simp only[Zv,exK]at hx
  have heq:Wb e0 ex=true->e0=ex:=by
   intro he;unfold Wb at he;split at he
   .rw[Zl he]
   .rfl
   .rfl
   .cases he
  grind[EO]
theorem iK.putP:∀(ps:LnQ)(i:Nat)(vs:List V)(xs:LvQ)(env:Env)(a:LvQ),iK φ F H h env a->(∀j v,xs[j]?=some v->RV φ F H h (ge vs (i+j)) v)->xs.length=ps.length->(∀t∈ps,t<a.length) ->
  iK φ F H h (CL env ps i vs) (Am.putP ps xs a)∧(Am.putP ps xs a).length=a.length
 | [],i,vs,xs,env,a,e,_,_,_=>by
  have:Am.putP [] xs a=a:=by cases xs<;>rfl
  trivial
 |p::ps,i,vs,[],env,a,e,_,hl,_=>by simp at hl
 | p::ps,i,vs,x::xs,env,a,e,hv,hl,ht=>by
  simp only[CL,Am.putP]
  have e1:iK φ F H h ((p,ge vs i)::env) (a.set p x):=by
   intro t;rw[xk,Me a p t x (ht p ac)];split
   .exact hv 0 x ac
   .exact e t
  obtain ⟨q1,q2⟩:=iK.putP ps (i+1) vs xs _ _ e1 (λj v hj=>by
   have:=hv (j+1) v (by trivial)
   rwa [show i+(j+1)=i+1+j by omega]at this) (by grind) (λt h'=>by grind)
  grind
theorem iK.keep(e:iK φ F H h env a)(ks:LnQ):iK φ F H h (qC env ks) a:=by
 intro t;rcases LR env ks t with h'|⟨_,h'⟩
 .grind[RV]
 .rw[h'];exact e t
theorem pG(hY:YOk Y){C:CC}(hC:COk Y C){nt:Nat}:∀(c:Code)(a:Ann)(env:Env)(k:K)(φ:LnQ)(F:Nat->Prop)(H:AH)(h:Hp)(al:LvQ),
  jR Y nt c=true->nD Y.X.P c a=true->nt<=al.length->pN Y F H->Inv φ F G H h->iK φ F H h env al->den Y C c a env h k->Sim Y.X G φ F H h al (asg c) c k
 |.skip,a,env,k,φ,F,H,h,al,_,_,_,_,I,e,hk=>⟨1,.normal,al,H,env,h,φ,F,rfl,hk,I,Stp.refl ..,e,rfl,λ_ _=>rfl⟩
 |.label _,a,env,k,φ,F,H,h,al,_,_,_,_,I,e,hk=>⟨1,.normal,al,H,env,h,φ,F,rfl,hk,I,Stp.refl ..,e,rfl,λ_ _=>rfl⟩
 |.exit id,a,env,k,φ,F,H,h,al,_,_,_,_,I,e,hk=>⟨1,.exit id,al,H,env,h,φ,F,rfl,hk,I,Stp.refl ..,e,rfl,λ_ _=>rfl⟩
 |.ret,a,env,k,φ,F,H,h,al,_,_,_,_,I,e,hk=>⟨1,.ret,al,H,env,h,φ,F,rfl,hk,I,Stp.refl ..,e,rfl,λ_ _=>rfl⟩
 | .region id ops draw,a,env,k,φ,F,H,h,al,hv,ha,hnt,g,I,e,hk=>by
  simp only[jR,Z1]at hv;simp only[nD,X9,Y5]at ha
  have hdead:NW a.i=false∧rgn Y C draw ops a.i.acts ops.toList env h (k .normal):=by
   unfold den at hk;split at hk
   .trivial
   .rename_i hne;refine⟨?_,hk⟩;unfold NW;split
    .trivial
    .rfl
  obtain⟨hd0,hk⟩:=hdead;rw[hd0]at ha
  have hch:draw=true->aal Y.X.P ops=true:=by
   intro hd;rcases ha with(h2|h2)|h2
   .grind
   .cases h2
   .exact h2
  obtain⟨n,a',H',env',h',φ',F',q1,q2,q3,q4,q5,q6⟩:=Nu hY hC (draw:=draw) hv hch hnt g I e hk;refine⟨n+1,.normal,a',H',env',h',φ',F',?_,q2,q3,q4,q5,q6,λt ht=>Nv q1 t ht⟩
  grind[fh,Cj,lW]
 | .scope c,a,env,k,φ,F,H,h,al,hv,ha,hnt,g,I,e,hk=>by
  obtain⟨n,ex,al',H',env',h',φ',F',q1,q⟩:=pG hY hC c a.a env k φ F H h al hv ha hnt g I e hk;refine⟨n+1,ex,al',H',env',h',φ',F',?_,q⟩;simp only[fh];exact ip (lW Y.X n) (Z8 n) q1
 | .seq x y,a,env,k,φ,F,H,h,al,hv,ha,hnt,g,I,e,hk=>by
  simp only[jR,nD,Z7]at hv ha;obtain⟨n,ex,al1,H1,env1,h1,φ1,F1,q1,q2,q3,q4,q5,q6,q7⟩:=pG hY hC x a.a env _ φ F H h al hv.1 ha.1 hnt g I e hk;cases ex
  case normal=>
   have q2':ghO a.i env1 h1 λenv h=>den Y C y a.b env h k:=q2
   obtain⟨env1,hg,Fg,kg,Ig,Sg,q5⟩:=adG q3 q5 q2';have q4:=q4.trans Sg;obtain⟨m,ex,al',H',env',h',φ',F',r1,r2,r3,r4,r5,r6,r7⟩:=pG hY hC y a.b env1 k φ1 Fg H1 hg al1 hv.2 ha.2 aa (g.mono q4.leF) Ig q5 kg;refine⟨max n m+1,ex,al',H',env',h',φ',F',?_,r2,r3,q4.trans r4,r5,aa,λt ht=>?_⟩
   .simp only[fh];rw[ip (oH Y.X aa) aa q1];exact ip (oH Y.X aa) aa r1
   grind[asg]
  all_goals
   refine⟨n+1,_,al1,H1,env1,h1,φ1,F1,?_,q2,q3,q4,q5,q6,λt ht=>?_⟩
   .simp only[fh];rw[ip (oH Y.X aa) (Z8 n) q1]
   .simp only[asg,Xx,not_or]at ht;exact q7 t ht.1
 | .cond c x y,a,env,k,φ,F,H,h,al,hv,ha,hnt,g,I,e,hk=>by
  simp only[jR,nD,Z7]at hv ha;refine Kb ha.1.1 e (λk hk=>?_) hk;unfold cnd at hk;split at hk
  .rename_i b hb;have hc:=bN g e hv.1.1;rw[hb,kC]at hc;cases b with
   | true=>
    obtain⟨n,ex,al',H',env',h',φ',F',q1,q2,q3,q4,q5,q6,q7⟩:=pG hY hC x a.a env k φ F H h al hv.1.2 ha.1.2 hnt g I e hk;refine⟨n+1,ex,al',H',env',h',φ',F',?_,q2,q3,q4,q5,q6,λt ht=>?_⟩
    .simp only[fh,hc];exact ip (lW Y.X n) (Z8 n) q1
    grind[asg]
   | false=>
    obtain⟨n,ex,al',H',env',h',φ',F',q1,q2,q3,q4,q5,q6,q7⟩:=pG hY hC y a.b env k φ F H h al hv.2 ha.2 hnt g I e hk;refine⟨n+1,ex,al',H',env',h',φ',F',?_,q2,q3,q4,q5,q6,λt ht=>?_⟩
    .simp only[fh,hc];exact ip (lW Y.X n) (Z8 n) q1
    grind[asg]
  trivial
 | .block id c,a,env,k,φ,F,H,h,al,hv,ha,hnt,g,I,e,hk=>by
  simp only[jR,nD,Z7]at hv ha;refine Kb (ahZ:=asg c) ha.1 e (λk hk=>?_) hk;obtain⟨n,ex,al',H',env',h',φ',F',q1,q2,q⟩:=pG hY hC c a.a env _ φ F H h al hv ha.2 hnt g I e hk
  have run:fh Y.X (d8 Y.X (n+1)) (n+1) (.block id c) al H=match ex with
    |.exit j=>some (if j=id then .normal else .exit j,al',H')
    |ex=>some (ex,al',H'):=by
   simp only[fh];rw[ip (lW Y.X n) (Z8 n) q1];cases ex<;>rfl
  cases ex
  case exit j=>
   unfold afW at q2;simp only at q2;split at q2
   .rename_i hb;exact⟨n+1,.normal,al',H',env',h',φ',F',by simp_all,q2,q⟩
   .rename_i hb;refine⟨n+1,.exit j,al',H',env',h',φ',F',?_,q2,q⟩
    grind[X2]
  all_goals exact⟨n+1,_,al',H',env',h',φ',F',run,q2,q⟩
 | .loop c,a,env,k,φ,F,H,h,al,hv,ha,hnt,g,I,e,hk=>by
  simp only[jR]at hv;simp only[nD,Z7]at ha;simp only[den,zU,Dg]at hk
  have hinv:wG (asg c) (Fl a.i)=true:=by
   have:=ha.1;unfold okI at this;unfold Fl;split at this
   .rename_i hi;rw[hi];rfl
   .grind
   .rename_i hi1 hi2;split
    .grind
    .rfl
  have hexs:∀x∈Ak a.i,wG (asg c) x.2.2=true:=by
   have:=ha.1;unfold okI at this;unfold Ak;split at this
   .grind
   .grind
   .simp
  -- what holds at the head of each round
  let P:List V->Hp->Prop:=λl hc=>∀(φc:LnQ)(Fc:Nat->Prop)(Hc:AH)(alc:LvQ),Inv φc Fc G Hc hc->Stp G φ F H h φc Fc Hc hc->alc.length=al.length->(∀t,t ∉ asg c->kq alc t=kq al t) ->
   (∀j t,(Cp a.i)[j]?=some t->RV φc Fc Hc hc (ge l j) (kq alc t)) ->
   ∃n ex al' H' env' h' φ' F',fh Y.X (d8 Y.X n) n (.loop c) alc Hc=some (ex,al',H')∧k ex env' h'∧Inv φ' F' G H' h'∧Stp G φ F H h φ' F' H' h'∧iK φ' F' H' h' env' al'∧al'.length=al.length∧∀t,t ∉ asg c->kq al' t=kq al t
  have key:P ((Cp a.i).map (lk env)) h:=by
   refine hk P λl hc ⟨q,hst,hq⟩=>?_
   intro φc Fc Hc alc Ic Sc hlen hsame hins
   have ec:iK φc Fc Hc hc (CL (qC env (Fl a.i)) (Cp a.i) 0 l) alc:=by
    refine iK.join (env1:=env) (λt ht=>?_) hins;rw[hsame t (yx hinv ht)];exact RV.mono Sc.leF Sc.sl _ _ (e t)
   obtain⟨n,ex,al1,H1,env1,h1,φ1,F1,q1,q2,q3,q4,q5,q6,q7⟩:=pG hY hC c a.a _ _ φc Fc Hc hc alc hv ha.2 aa (g.mono Sc.leF) Ic ec hst;have S1:=Sc.trans q4;have same1:∀t,t ∉ asg c->kq al1 t=kq al t:=λt ht=>by rw[q7 t ht,hsame t ht]
   have out:∀vs,ex≠.normal->vs=(EO (Ak a.i) ex).map (lk env1)->exK ((Ak a.i).map λx=>(x.1,λl h=>k x.1 (CL (qC env x.2.2) x.2.1 0 l) h)) ex vs h1 ->
     ∃n ex al' H' env' h' φ' F',fh Y.X (d8 Y.X n) n (.loop c) alc Hc=some (ex,al',H')∧k ex env' h'∧Inv φ' F' G H' h'∧Stp G φ F H h φ' F' H' h'∧iK φ' F' H' h' env' al'∧al'.length=al.length∧∀t,t ∉ asg c->kq al' t=kq al t:=by
    intro vs hne hvs hx;obtain⟨x,hxm,hx1,hx2,hx3⟩:=Wa (f:=λx l h=>k x.1 (CL (qC env x.2.2) x.2.1 0 l) h) hx;refine⟨n+1,ex,al1,H1,_,h1,φ1,F1,?_,by rw[<-hx1];omega,q3,S1,iK.join (env1:=env1) (λt ht=>?_) (λj t hj=>?_),aa,same1⟩
    .simp only[fh];rw[ip (lW Y.X n) (Z8 n) q1];cases ex<;>first|rfl|trivial
    .rw[same1 t (yx (hexs x hxm) ht)];exact RV.mono S1.leF S1.sl _ _ (e t)
    .rw[hvs,hx2,JC x.2.1 env1 j t hj];exact q5 t
   cases ex
   case normal=>
    obtain⟨hcl,hP⟩:=hq .normal _ _ q2;simp only[clean,Z7]at hcl
    obtain ⟨m,ex,al',H',env',h',φ',F',r1,r⟩:=hP φ1 F1 H1 al1 (q3.reset S1.hl hcl.2) (S1.reset _) aa same1 (λj t hj=>by
     rw[JC (Cp a.i) env1 j t hj];refine RV.reset S1.hl _ _ ?_ (q5 t)
     have:∀{l:LnQ}{j:Nat},ij (MG a.i) (l.map (lk env1))=true->l[j]?=some t->pz (MG a.i) (lk env1 t)=true:=by
      intro l
      induction l with
      |nil=>simp
      | cons s l ih=>
       grind[ij]
     grind)
    refine⟨max n m+1,ex,al',H',env',h',φ',F',?_,r⟩;simp only[fh];rw[ip (oH Y.X aa) aa q1];exact ip (oH Y.X aa) aa r1
   case exit j=>exact out _ ac rfl (hq (.exit j) _ _ q2)
   case goto j=>exact out _ ac rfl (hq (.goto j) _ _ q2)
   case ret=>exact out _ ac rfl (hq .ret _ _ q2)
   case panic j=>exact out _ ac rfl (hq (.panic j) _ _ q2)
   all_goals exact out _ ac rfl (hq _ _ _ q2)
  obtain⟨n,ex,al',H',env',h',φ',F',r⟩:=key φ F H al I (Stp.refl ..) rfl (λ_ _=>rfl) (λj t hj=>by rw[JC (Cp a.i) env j t hj];exact e t);exact⟨n,ex,al',H',env',h',φ',F',r⟩
 | .rangeFunc g ps x y,a,env,k,φ,F,H,h,al,hv,ha,hnt,gl,I,e,hk=>by
  simp only[jR,nD,Z7,Z1,decide_eq_true_eq]at hv ha;simp only[den,zU,Dg]at hk;unfold rgO at hk;split at hk
  case h_2=>trivial
  rename_i xs hxs;unfold sqV at hxs;split at hxs
  case h_2=>cases hxs
  rename_i gf cs hg;have hgv:=bN gl e hv.1.1.1;rw[hg]at hgv;simp only[RV]at hgv;obtain⟨a0,lb,eg,r1,r2⟩:=hgv;simp only[RVs]at r1;subst r1;obtain⟨hok,hsq⟩:=hY.seq gf cs xs hxs
  have rounds:∀(l:List LvQ),(∀z∈l,z∈xs)->∀(φc:LnQ)(Fc:Nat->Prop)(Hc:AH)(hc:Hp),Inv φc Fc G Hc hc->Stp G φ F H h φc Fc Hc hc ->
    rg ps.toList.length (λl h q=>den Y C x a.a (CL (qC env (Fl a.i)) ps.toList 0 l) h λex env h=>match ex with
     |.normal=>den Y C y a.b env h λex _ h=>q ex h
     |_=>False) (MG a.i) h (λex h=>exK ((Ak a.i).map λx=>(x.1,λ_ h=>k x.1 (qC env x.2.2) h)) ex [] h) l hc ->
    ∃n ex H' h' φ' F',oD (λa H=>fh Y.X (d8 Y.X n) n x a H) (λa H=>fh Y.X (d8 Y.X n) n y a H) (λH'=>Y.X.seq gf lb H'=some xs∧Y.X.seqK gf lb H'=Y.X.seqK gf lb H) ps.toList al l Hc=some (ex,al,H')∧exK ((Ak a.i).map λx=>(x.1,λ_ h=>k x.1 (qC env x.2.2) h)) ex [] h'∧Inv φ' F' G H' h'∧Stp G φ F H h φ' F' H' h':=by
   intro l
   induction l with
   |nil=>intro _ φc Fc Hc hc Ic Sc hr;exact⟨0,.normal,Hc,hc,φc,Fc,rfl,hr,Ic,Sc⟩
   | cons z l ihl=>
    intro hl φc Fc Hc hc Ic Sc hr;obtain⟨hz,hr⟩:=hr;have hz':z.length=ps.toList.length:=hz;have ec:iK φc Fc Hc hc (qC env (Fl a.i)) al:=(e.mono Sc.leF Sc.sl).keep _
    obtain ⟨ep,lp⟩:=iK.putP ps.toList 0 (z.map λv=>.d (jA v)) z _ al ec (λj v hj=>by
     have:ge (z.map λv=>V.d (jA v)) (0+j)=.d (jA v):=by
      rw[Zk];clear hr hz hz' hl ec
      induction z generalizing j with
      |nil=>simp at hj
      | cons u z ihz=>
       cases j with
       |zero=>simp only[List.getElem?_cons_zero,Z9]at hj;subst hj;rfl
       |succ j=>simp only[List.getElem?_cons_succ]at hj;exact ihz j hj
     rw[this];exact zM (hok z (hl z ac) v (Yh hj))) hz (λt ht=>Z0 (hv.1.1.2 t ht) hnt)
    obtain⟨n,ex,al1,H1,env1,h1,φ1,F1,q1,q2,q3,q4,q5,q6,_⟩:=pG hY hC x a.a _ _ φc Fc Hc hc _ hv.1.2 ha.1 aa (gl.mono Sc.leF) Ic ep hr;cases ex
    case normal=>
     have S1:=Sc.trans q4;obtain⟨m,ex,al2,H2,env2,h2,φ2,F2,p1,p2,p3,p4,_,_,_⟩:=pG hY hC y a.b env1 _ φ1 F1 H1 h1 al1 hv.2 ha.2 aa (gl.mono S1.leF) q3 q5 q2;have S2:=S1.trans p4
     have step:∀N,max n m<=N->oD (λa H=>fh Y.X (d8 Y.X N) N x a H) (λa H=>fh Y.X (d8 Y.X N) N y a H) (λH'=>Y.X.seq gf lb H'=some xs∧Y.X.seqK gf lb H'=Y.X.seqK gf lb H) ps.toList al (z::l) Hc=match ex with
       |.normal=>oD (λa H=>fh Y.X (d8 Y.X N) N x a H) (λa H=>fh Y.X (d8 Y.X N) N y a H) (λH'=>Y.X.seq gf lb H'=some xs∧Y.X.seqK gf lb H'=Y.X.seqK gf lb H) ps.toList al l H2
       |ex=>some (ex,al,H2):=by
      intro N hN;simp only[oD,if_pos hz'];rw[ip (oH Y.X (m:=N) aa) aa q1];simp only;rw[ip (oH Y.X (m:=N) aa) aa p1];cases ex<;>simp only
      rw[if_pos ⟨(hsq φ2 F2 H2 h2 lb (RVs.mono S2.leF S2.sl _ _ r2)).1,(hsq φ F H h lb r2).2 F2 H2 S2.leF⟩]
     cases ex
     case normal=>
      obtain⟨hcl,p2⟩:=p2;obtain⟨M,ex,H',h',φ',F',w1,w2,w3,w4⟩:=ihl (λz' hz'=>hl z' (by grind)) φ2 F2 H2 _ (p3.reset S2.hl hcl) (S2.reset _) p2;refine⟨max (max n m) M,ex,H',h',φ',F',?_,w2,w3,w4⟩;rw[step _ aa];simp only;exact Hy (oH Y.X (Nat.le_max_right _ M)) (Nat.le_max_right _ M) w1
     all_goals exact⟨max n m,_,H2,h2,φ2,F2,step _ (Z8 _),p2,p3,S2⟩
    all_goals exact q2.elim
  obtain⟨n,ex,H',h',φ',F',w1,w2,w3,w4⟩:=rounds xs (λ_ hz=>hz) φ F H h I (Stp.refl ..) hk;obtain⟨x0,hxm,hx1,_,hx3⟩:=Wa (f:=λx _ h=>k x.1 (qC env x.2.2) h) w2;refine⟨n+1,ex,al,H',qC env x0.2.2,h',φ',F',?_,by grind,w3,w4,(e.mono w4.leF w4.sl).keep _,rfl,λ_ _=>rfl⟩;simp only[fh,eg];rw[(hsq φ F H h lb r2).1];simp only;exact Hy (lW Y.X n) (Z8 n) w1
 |.goto _,a,env,k,φ,F,H,h,al,_,_,_,_,_,_,hk=>by trivial
 |.refuse _,a,env,k,φ,F,H,h,al,_,_,_,_,_,_,hk=>by trivial
end
def Sub(C R:CC):Prop:=(∀f ds v,C.p f ds v->R.p f ds v)∧∀f args h v h',C.i f args h v h'->R.i f args h v h'
def Up1(Y:kA)(R:CC)(f:FuncId)(ds:List V)(v:V)(q:V->Hp->Prop):Prop:=
 (∃C:CC,Sub C R∧Y.X.allow f=true∧(∀ahZ,Y.X.orc f ahZ=none)∧∃fn m a,Y.X.P.funcs[f]?=some fn∧(∀c,fn.body=some c->nD Y.X.P c a=true)∧fnD Y C fn m a ds q) ∨
 (∃ahZ w,Y.X.orc f ahZ=some w∧ds=ahZ.map lit∧v=lit w∧(∀x∈ahZ,xX x=true)∧xX w=true)
def Up2(Y:kA)(R:CC)(f:FuncId)(args:List V)(h:Hp)(q:V->Hp->Prop):Prop:=
 ∃C:CC,Sub C R∧Y.X.allow f=true∧(∀ahZ,Y.X.orc f ahZ=none)∧∃fn m,∃a:Nat->Ann,Y.X.P.funcs[f]?=some fn∧(∀c,fn.body=some c->nD Y.X.P c (a h.length)=true)∧fnI Y C fn m a args h q
def out(v:V):V->Hp->Prop:=λr h=>∃h',bH h r=some (v,h')
def Closed(Y:kA)(R:CC):Prop:=(∀f ds v,Up1 Y R f ds v (out v)->R.p f ds v)∧∀f args h v h',Up2 Y R f args h (m7 h.length v h')->R.i f args h v h'
def CP(Y:kA):sE:=λf ds v=>∀R:CC,Closed Y R->R.p f ds v
def CI(Y:kA):sC:=λf args h v h'=>∀R:CC,Closed Y R->R.i f args h v h'
def CX(Y:kA):CC:=⟨CP Y,CI Y⟩
theorem CX.sub{Y:kA}{C R:CC}(h:Sub C (CX Y))(hR:Closed Y R):Sub C R:=⟨λf ds v hc=>h.1 f ds v hc R hR,λf args h0 v h' hc=>h.2 f args h0 v h' hc R hR⟩
theorem CP.intro{Y:kA}{f:FuncId}{fn:Func}{m:Nat}{a:Ann}{ds:List V}{v:V}(h1:Y.X.allow f=true)(h2:∀ahZ,Y.X.orc f ahZ=none)(h3:Y.X.P.funcs[f]?=some fn)(h4:∀c,fn.body=some c->nD Y.X.P c a=true)
  (h5:fnD Y (CX Y) fn m a ds (out v)):CP Y f ds v:=λR hR=>hR.1 f ds v (.inl ⟨CX Y,CX.sub ⟨λ_ _ _ h=>h,λ_ _ _ _ _ h=>h⟩ hR,h1,h2,fn,m,a,h3,h4,h5⟩)
theorem CP.orc{Y:kA}{f:FuncId}{ahZ:LvQ}(h1:Y.X.orc f ahZ=some w)(h2:∀x∈ahZ,xX x=true)(h3:xX w=true):CP Y f (ahZ.map lit) (lit w):=λR hR=>hR.1 f _ _ (.inr ⟨ahZ,w,h1,rfl,rfl,h2,h3⟩)
theorem CI.intro{Y:kA}{f:FuncId}{fn:Func}{m:Nat}{a:Nat->Ann}{args:List V}{h:Hp}{v:V}{h':Hp}(h1:Y.X.allow f=true)(h2:∀ahZ,Y.X.orc f ahZ=none)(h3:Y.X.P.funcs[f]?=some fn)(h4:∀c,fn.body=some c->nD Y.X.P c (a h.length)=true)
  (h5:fnI Y (CX Y) fn m a args h (m7 h.length v h')):CI Y f args h v h':=λR hR=>hR.2 f args h v h' ⟨CX Y,CX.sub ⟨λ_ _ _ h=>h,λ_ _ _ _ _ h=>h⟩ hR,h1,h2,fn,m,a,h3,h4,h5⟩
def okB(P:Program)(fn:Func)(a:Ann):Bool:=match fn.body with
 |some c=>nD P c a
 |none=>true
theorem CP.of{Y:kA}{f:FuncId}{fn:Func}{m:Nat}{a:Ann}{ds:List V}{v:V}(h1:Y.X.allow f=true)(h2:∀ahZ,Y.X.orc f ahZ=none)(h3:Y.X.P.funcs[f]?=some fn)(h4:okB Y.X.P fn a=true)
  (h5:fnD Y (CX Y) fn m a ds (out v)):CP Y f ds v:=
 CP.intro h1 h2 h3 (λc hc=>by grind[okB]) h5
theorem CI.of{Y:kA}{f:FuncId}{fn:Func}{m:Nat}{a:Nat->Ann}{args:List V}{h:Hp}{v:V}{h':Hp}(h1:Y.X.allow f=true)(h2:∀ahZ,Y.X.orc f ahZ=none)(h3:Y.X.P.funcs[f]?=some fn)(h4:okB Y.X.P fn (a h.length)=true)
  (h5:fnI Y (CX Y) fn m a args h (m7 h.length v h')):CI Y f args h v h':=
 CI.intro h1 h2 h3 (λc hc=>by grind[okB]) h5
structure VOk(Y:kA):Prop where
 y:YOk Y
 fns:∀f fn c,Y.X.allow f=true->Y.X.P.funcs[f]?=some fn->fn.body=some c->jR Y fn.ntmps c=true
section
variable{Y:kA}{φ:LnQ}{F G:Nat->Prop}{H:AH}{h:Hp}
theorem LU{v:Value}(hv:okZ v)(hr:RD F H (jA v) w):w=v:=by
 cases v<;>simp only[jA,RD]at hr
 case agg=>grind
 case tuple=>grind
 case string s=>omega
 all_goals first|exact hr|exact hr.1
theorem Bt:∀{l ws:LvQ},(∀c∈l,okZ c)->RVs φ F H h (l.map λc=>.d (jA c)) ws->ws=l
 |[],ws,_,hr=>by trivial
 | v::l,ws,hl,hr=>by
  simp only[Zv,RVs]at hr;obtain⟨w,us,rfl,r1,r2⟩:=hr;simp only[RV]at r1;rw[LU (hl v ac) r1,Bt (λc hc=>hl c (by grind)) r2]
theorem aat{v:Value}(hv:xX v=true)(hr:RV φ F H h (lit v) w):w=v:=by
 cases v<;>simp only[lit,xX]at hv hr
 case agg cs=>
  obtain⟨l⟩:=cs
  grind[RV,Bt,okZ]
 case tuple cs=>
  obtain⟨l⟩:=cs
  grind[RV,Bt,okZ]
 all_goals(simp only[RV]at hr;exact LU ⟨hv,rfl⟩ hr)
theorem LS:∀{l ws:LvQ},(∀c∈l,xX c=true)->RVs φ F H h (l.map lit) ws->ws=l
 |[],ws,_,hr=>by trivial
 | v::l,ws,hl,hr=>by
  simp only[Zv,RVs]at hr;obtain⟨w,us,rfl,r1,r2⟩:=hr;rw[aat (hl v ac) r1,LS (λc hc=>hl c (by grind)) r2]
theorem Jm:∀(l:List V)(i t:Nat),lk (GW i l) t=if i<=t then ge l (t-i)else .junk
 |[],i,t=>by simp only[GW,lk];split<;>first|rfl|(cases t-i<;>rfl)
 | x::l,i,t=>by
  show lk ((i,x)::GW (i+1) l) t=_
  rw[xk,Jm l (i+1) t];by_cases hi:t=i
  .simp_all[ge]
  .rw[if_neg hi];by_cases hl:i<=t
   .rw[if_pos hl,if_pos aa];obtain⟨d,hd⟩:∃d,t-i=d+1:=⟨t-i-1,aa⟩;rw[hd,show t-(i+1)=d by omega];rfl
   .rw[if_neg hl,if_neg aa]
theorem VX{l:List V}(hr:RVs φ F H h l ws)(t:Nat):ge l t=.junk∨∃w,ws[t]?=some w∧RV φ F H h (ge l t) w:=by
 induction l generalizing ws t with
 |nil=>exact .inl rfl
 | cons x l ih=>
  simp only[RVs]at hr;obtain⟨w,us,rfl,r1,r2⟩:=hr;cases t with
  |zero=>exact .inr ⟨w,rfl,r1⟩
  |succ t=>exact ih r2 t
theorem Uu(hY:YOk Y)(I:Inv φ F G H h)(e:iK φ F H h env a){r:ResultVar}(hv:K4 Y env h r=some v):∃w,Gu Y.X.P H a r=some w∧RV φ F H h v w:=by
 have hg:∀t,a.getD t undef=kq a t:=λt=>(oO a t).symm
 cases r with
 |tmp t=>simp only[K4,Z9]at hv;subst hv;exact⟨_,rfl,by rw[hg];exact e t⟩
 | cell x t=>
  simp only[K4]at hv;simp only[Gu,hg];have T:=hY.ty t;split at hv
  .rename_i hag
   have hu:(∃gs,Y.X.P.underlying t=some (.struct gs))∨∃k e,Y.X.P.underlying t=some (.array k e):=by
    have hkd:=T.kind
    revert hkd hag
    cases(Y.ty t).k<;>simp only[GA]<;>intro hag hkd<;>try cases hag
    .grind
    .grind
   exact HN I hu (T.sz (by intro e;rw[e]at hag;cases hag)) hv (e x)
  .rename_i hag
   have hu:∃d,Y.X.P.underlying t=some d∧(∀gs,d≠.struct gs)∧∀n e,d≠.array n e:=by
    have hkd:=T.kind
    revert hkd hag
    cases(Y.ty t).k<;>simp only[GA]<;>intro hag hkd<;>(try cases hag)
    all_goals first
     |exact⟨_,hkd,λ_=>by simp,λ_ _=>by simp⟩
     |(obtain⟨_,hkd⟩:=hkd;exact⟨_,hkd,λ_=>by simp,λ_ _=>by simp⟩)
     |(obtain⟨_,_,_,hkd⟩:=hkd;exact⟨_,hkd,λ_=>by simp,λ_ _=>by simp⟩)
   obtain⟨d,hd,h1,h2⟩:=hu;exact HO I hd h1 h2 hv (e x)
  trivial
theorem ED(hY:YOk Y)(I:Inv φ F G H h){env:Env}{a:LvQ}(e:iK φ F H h env a):∀{rs:List ResultVar}{q:List V->Prop},Nt (rs.map (K4 Y env h)) q->∃l ws,q l∧rs.mapM (Gu Y.X.P H a)=some ws∧RVs φ F H h l ws
 |[],q,hq=>⟨[],[],hq,rfl,by rfl⟩
 | r::rs,q,hq=>by
  simp only[Zv,Nt]at hq;unfold bnd at hq;split at hq
  .rename_i v hv;obtain⟨w,hw,hr⟩:=Uu hY I e hv;obtain⟨l,ws,h1,h2,h3⟩:=ED hY I e hq;refine⟨v::l,w::ws,h1,?_,?_⟩
   .simp_all
   grind[RVs]
  trivial
theorem adJ(hV:VOk Y){C:CC}(hC:COk Y C){f:FuncId}{fn:Func}{m:Nat}{a:Ann}{ds:List V}{v:V}(ha:Y.X.allow f=true)(ho:∀ahZ,Y.X.orc f ahZ=none)(hf:Y.X.P.funcs[f]?=some fn)
  (hok:∀c,fn.body=some c->nD Y.X.P c a=true) (hd:fnD Y C fn m a ds (out v)):B8 Y f ds v:=by
 intro F H args wf hF g hargs;unfold fnD at hd;split at hd
 .rename_i c hc
  let h0:Hp:=List.replicate m (0,.none)
  have hnone:∀(i e:Nat)(b:Bk),h0[i]?=some (e,b)->b=Bk.none:=λi e b hi=>by
   grind
  have I0:Inv (List.replicate m 0) F (λc=>c<H.n) H h0:=by
   refine⟨by grind,?_,?_,λc hc=>(hF c hc).2,?_,?_,?_,wf⟩
   .intro i e b hi;rw[hnone i e b hi];trivial
   .grind
   .intro i e b hi hob;rw[hnone i e b hi]at hob;trivial
   .intro i e b j e' b' hi hob;rw[hnone i e b hi]at hob;trivial
   .intro c x g y hx _ hc;simp_all[AH.get_lt]
  let al:=args++List.replicate (fn.ntmps-args.length) undef
  have hlen:fn.ntmps<=al.length:=by simp[al];omega
  have e0:iK (List.replicate m 0) F H h0 (GW 0 ds) al:=by
   intro t;rw[Jm,if_pos (Zc _),Nat.sub_zero];rcases VX (hargs (List.replicate m 0) h0) t with hj|⟨w,hw,hr⟩
   .grind[RV]
   ·have:kq al t=w:=by
     rw[oO,Z6,List.getElem?_append_left (bj hw),hw];rfl
    grind
  obtain⟨n,ex,al',H',env',h',φ',F',q1,q2,q3,q4,q5,_,_⟩:=pG hV.y hC (nt:=fn.ntmps) c a (GW 0 ds) _ _ F H h0 al (hV.fns f fn c ha hf hc) (hok c hc) hlen g I0 e0 hd
  have fin:(ex=.normal∨ex=.ret)->Nt (fn.results.toList.map (K4 Y env' h')) (λl=>out v (D7 l) h') ->
    ∃n w H2 F2,d8 Y.X n f args H=some (w,H2)∧H.n<=H2.n∧WF H2∧(∀c,c<H.n->H2.get c=H.get c)∧(∀c,F c->F2 c)∧(∀c,F2 c->F c∨H.n<=c) ∧
    (∀c,F2 c->c<H2.n∧∃x,H2.get c=some x∧x.st=1) ∧
    (∀c x,H.n<=c->H2.get c=some x->x.st≠0->∀g y,g<H.n->H.get g=some y->y.st≠0->x.fam≠y.fam)∧(∀r,r<H.n->mY H r->mY H2 r) ∧
    ∀φ0 h0,RV φ0 F2 H2 h0 v w:=by
   intro hex hr;obtain⟨l,ws,⟨h2,hsn⟩,hm,hrs⟩:=ED hV.y q3 q5 hr
   obtain ⟨w,hw,hrw⟩:∃w,qy Y.X.P fn al' H'=some w∧RV φ' F' H' h' (D7 l) w:=by
    unfold qy;rw[hm]
    match l,ws,hrs with
    | [],_,hrs=>
     simp_all[RVs,D7,RV]
    | [x],_,hrs=>
     simp only[RVs]at hrs;obtain⟨y,us,rfl,r1,rfl⟩:=hrs;exact⟨y,rfl,r1⟩
    | x::y::l,_,hrs=>
     have hrs2:=hrs;simp only[RVs]at hrs;obtain⟨u,us,rfl,_,u2,us2,rfl,_⟩:=hrs
     grind[D7,RV]
   obtain⟨F2,S2,r2⟩:=En q3 hsn hrw;have St:=q4.trans S2.2;refine⟨n+1,w,H',F2,?_,St.n,S2.1.wf,λc hc=>St.keep c (.inr hc),St.fm,λc hc=>?_,λc hc=>⟨S2.1.lt c (.inl hc),S2.1.fb c hc⟩,?_,λr hr=>St.nokin r hr,r2⟩
   .grind[d8]
   .rcases St.fn c hc with hc|hc
    .grind
    .exact .inr aa
   .intro c x hc hx h0 g y hg hy hy0;exact S2.1.sep c x g y hx h0 aa hg (by grind[Stp.keep]) hy0
  cases ex
  case normal=>exact fin (.inl rfl) q2
  case ret=>exact fin (.inr rfl) q2
  all_goals exact q2.elim
 trivial
mutual
theorem RV.take{b:Nat}:∀(x:V)(v:Value),under b x=true->RV φ F H h x v->RV (φ.take b) F H (h.take b) x v
 |.junk,_,_,_=>by trivial
 |.d x,v,_,hv=>by trivial
 | .ref s e off len cap tot,v,ho,hv=>by
  have hs:s<b:=by simp only[under]at ho;rw[W7]at ho;exact ho
  have h1:(h.take b)[s]?=h[s]?:=List.getElem?_take_of_lt hs;have h2:(φ.take b).getD s 0=φ.getD s 0:=by rw[Z6,Z6,List.getElem?_take_of_lt hs]
  grind[RV,ep,ax]
 | .ptr s e off tot,v,ho,hv=>by
  have hs:s<b:=by simp only[under]at ho;rw[W7]at ho;exact ho
  have h1:(h.take b)[s]?=h[s]?:=List.getElem?_take_of_lt hs;have h2:(φ.take b).getD s 0=φ.getD s 0:=by rw[Z6,Z6,List.getElem?_take_of_lt hs]
  grind[RV,ep,ax]
 |.dptr cs pos,v,_,hv=>by trivial
 |.cut n,v,_,hv=>by trivial
 | .agg l,v,ho,hv=>by
  simp only[under]at ho;simp only[RV]at hv ⊢;obtain⟨ws,e,r⟩:=hv;exact⟨ws,e,RVs.takeH l ws ho r⟩
 | .tup l,v,ho,hv=>by
  simp only[under]at ho;simp only[RV]at hv ⊢;obtain⟨ws,e,r⟩:=hv;exact⟨ws,e,RVs.takeH l ws ho r⟩
 | .fn g fs cs,v,ho,hv=>by
  simp only[under,Z7]at ho;simp only[RV]at hv ⊢;obtain⟨a,b,e,r,q⟩:=hv;exact⟨a,b,e,RVs.takeH fs a ho.1 r,RVs.takeH cs b ho.2 q⟩
 | .ifc t x,v,ho,hv=>by
  simp only[under]at ho;simp only[RV]at hv ⊢;obtain⟨w,e,r⟩:=hv;exact⟨w,e,RV.take x w ho r⟩
 |.new ..,v,_,hv=>by trivial
theorem RVs.takeH{b:Nat}:∀(xs:List V)(vs:LvQ),jF b xs=true->RVs φ F H h xs vs->RVs (φ.take b) F H (h.take b) xs vs
 |[],vs,_,hv=>by trivial
 | x::xs,vs,ho,hv=>by
  simp only[jF,Z7]at ho;simp only[RVs]at hv ⊢;obtain⟨v,us,e,h1,h2⟩:=hv;exact⟨v,us,e,RV.take x v ho.1 h1,RVs.takeH xs us ho.2 h2⟩
end
theorem Inv.takeH(I:Inv φ F G H h){b:Nat}(hu:((h.take b).all λx=>aF b x.2)=true):Inv (φ.take b) F G H (h.take b):=by
 have hg:∀{i e k},(h.take b)[i]?=some (e,k)->i<b∧h[i]?=some (e,k):=λ{i e k} hi=>by
  have hlt:i<b:=by
   have:=bj hi;rw[Zr]at this;omega
  grind
 have hf:∀{i},i<b->(φ.take b).getD i 0=φ.getD i 0:=λ{i} hi=>by rw[Z6,Z6,List.getElem?_take_of_lt hi]
 refine⟨by rw[Zr,Zr,I.len],?_,I.lt,I.fb,?_,?_,I.sep,I.wf⟩
 .intro i e k hi;obtain⟨hlt,hi2⟩:=hg hi;rw[hf hlt];have:=I.blk i e k hi2;cases k with
  |none=>trivial
  | vars cs=>
   obtain⟨x,hx,h1,h2,h2e,h3⟩:=this;have hub:=Z1.1 hu (e,.vars cs) (Yh hi);exact⟨x,hx,h1,h2,h2e,RVs.takeH _ _ hub h3⟩
  |data n cs ex fr=>exact this
 .intro i e k hi ho;obtain⟨hlt,hi2⟩:=hg hi;rw[hf hlt];exact I.priv i e k hi2 ho
 .intro i e k j e' k' hi ho hj ho' hij;obtain⟨hlt,hi2⟩:=hg hi;obtain⟨hlt',hj2⟩:=hg hj;rw[hf hlt,hf hlt'];exact I.inj i e k j e' k' hi2 ho hj2 ho' hij
theorem aaQ(hV:VOk Y){C:CC}(hC:COk Y C){f:FuncId}{fn:Func}{m:Nat}{a:Nat->Ann}{args:List V}{h h2:Hp}{v:V}(ha:Y.X.allow f=true)(ho:∀ahZ,Y.X.orc f ahZ=none)(hf:Y.X.P.funcs[f]?=some fn)
  (hok:∀c,fn.body=some c->nD Y.X.P c (a h.length)=true) (hd:fnI Y C fn m a args h (m7 h.length v h2)):Gc Y f args h v h2:=by
 intro φ F G H ws I g hargs;unfold fnI at hd;split at hd
 .rename_i c hc
  let h0:Hp:=h++List.replicate m (0,.none)
  let φ0:LnQ:=φ++List.replicate m 0
  have hnew:∀{i e k},h0[i]?=some (e,k)->(i<h.length∧h[i]?=some (e,k))∨(h.length<=i∧e=0∧k=Bk.none):=λ{i e k} hi=>by
   grind
  have hφ:∀{i},i<h.length->φ0.getD i 0=φ.getD i 0:=λ{i} hi=>by
   rw[Z6,Z6,List.getElem?_append_left (by grind[Inv.len])]
  have hsl:mP φ h φ0 h0:=by
   intro s;rcases Zi s h.length with hlt|hge
   .grind[ep,ax]
   .have e1:h[s]?=none:=List.getElem?_eq_none hge;cases h2:h0[s]? with
    |none=>grind[ep,ax]
    | some p=>
     obtain⟨e,k⟩:=p;rcases hnew h2 with⟨hlt,_⟩|⟨_,rfl,rfl⟩
     .omega
     grind[ep,ax]
  have hle:LeF F F H H:=⟨λ_ hc=>hc,λ_ _=>rfl,λc x hx h0=>⟨x,hx,h0⟩⟩
  have I0:Inv φ0 F G H h0:=by
   refine⟨by grind[Inv.len],?_,I.lt,I.fb,?_,?_,I.sep,I.wf⟩
   .intro i e k hi;rcases hnew hi with⟨hlt,hi2⟩|⟨_,_,rfl⟩
    .grind[RB.mono,Inv.blk]
    .trivial
   .intro i e k hi hob;rcases hnew hi with⟨hlt,hi2⟩|⟨_,_,rfl⟩
    .rw[hφ hlt];exact I.priv i e k hi2 hob
    trivial
   .intro i e k j e' k' hi hob hj hob' hij;rcases hnew hi with⟨hlt,hi2⟩|⟨_,_,rfl⟩
    .rcases hnew hj with⟨hlt',hj2⟩|⟨_,_,rfl⟩
     .rw[hφ hlt,hφ hlt'];exact I.inj i e k j e' k' hi2 hob hj2 hob' hij
     trivial
    trivial
  have S0:Stp G φ F H h φ F H h:=Stp.refl ..
  let al:=ws++List.replicate (fn.ntmps-ws.length) undef
  have hlen:fn.ntmps<=al.length:=by simp[al];omega
  have e0:iK φ0 F H h0 (GW 0 args) al:=by
   intro t;rw[Jm,if_pos (Zc _),Nat.sub_zero];rcases VX (RVs.mono hle hsl _ _ hargs) t with hj|⟨w,hw,hr⟩
   .grind[RV]
   ·have:kq al t=w:=by
     rw[oO,Z6,List.getElem?_append_left (bj hw),hw];rfl
    grind
  obtain⟨n,ex,al',H',env',h',φ',F',q1,q2,q3,q4,q5,_,_⟩:=pG hV.y hC (nt:=fn.ntmps) c (a h.length) (GW 0 args) _ φ0 F H h0 al (hV.fns f fn c ha hf hc) (hok c hc) hlen g I0 e0 hd;have hb:h.length<=h'.length:=by rw[q4.hl];simp[h0]
  have fin:(ex=.normal∨ex=.ret)->Nt (fn.results.toList.map (K4 Y env' h')) (λl=>m7 h.length v h2 (D7 l) h') ->
    ∃n w H2 φ2 F2,d8 Y.X n f ws H=some (w,H2)∧Inv φ2 F2 G H2 h2∧Stp G φ F H h φ2 F2 H2 h2∧YN φ2 F2 G H2 h2 v w:=by
   intro hex hr;obtain⟨l,us,⟨rfl,hu,hres⟩,hm,hrs⟩:=ED hV.y q3 q5 hr
   obtain ⟨w,hw,hrw⟩:∃w,qy Y.X.P fn al' H'=some w∧RV φ' F' H' h' (D7 l) w:=by
    unfold qy;rw[hm]
    match l,us,hrs with
    | [],_,hrs=>
     simp_all[RVs,D7,RV]
    | [x],_,hrs=>
     simp only[RVs]at hrs;obtain⟨y,us,rfl,r1,rfl⟩:=hrs;exact⟨y,rfl,r1⟩
    | x::y::l,_,hrs=>
     have hrs2:=hrs;simp only[RVs]at hrs;obtain⟨u,us,rfl,_,u2,us2,rfl,_⟩:=hrs
     grind[D7,RV]
   have It:=q3.takeH hu
   have mkSt:∀(F':Nat->Prop)(h':Hp),Stp G φ0 F H h0 φ' F' H' h'->h.length<=h'.length->Stp G φ F H h (φ'.take h.length) F' H' (h'.take h.length):=λF' h' q4 hb=>by
    refine⟨q4.n,q4.keep,q4.fm,q4.fn,q4.born,q4.nokin,by grind,λs=>?_⟩;rcases Zi s h.length with hlt|hge
    .obtain⟨a1,a2⟩:=(hsl.trans q4.sl) s;have e1:(h'.take h.length)[s]?=h'[s]?:=List.getElem?_take_of_lt hlt;have e2:(φ'.take h.length).getD s 0=φ'.getD s 0:=by rw[Z6,Z6,List.getElem?_take_of_lt hlt]
     grind[ep,ax]
    .have e1:(h'.take h.length)[s]?=none:=List.getElem?_eq_none (by grind);have e2:h[s]?=none:=List.getElem?_eq_none hge;simp only[ep,ax,e1,e2];exact⟨Z8 _,λ_ q hq=>by cases hq⟩
   have St:=mkSt F' h' q4 hb;have hcall:d8 Y.X (n+1) f ws H=some (w,H'):=by grind[d8]
   by_cases hrec:ae4 h.length v (D7 l) h'
   .obtain⟨s,e,vs,ds,h1,hs,hg,ht,hg1,htk,hv⟩:=hrec
    have prt:∀w0,RV φ' F' H' h' (.ptr s e 0 vs.length) w0->∃c F2,w0=.pointer (some ⟨c,0,none⟩)∧(∀c,F' c->F2 c)∧LeF F' F2 H' H'∧Inv (φ'.take h.length) F2 G H' (h1.take h.length)∧Stp G φ F H h (φ'.take h.length) F2 H' (h1.take h.length) ∧
      abL (φ'.take h.length) F2 G H' (h1.take h.length) ds c:=by
     intro w0 hr0;obtain⟨rfl,x,hx,hx1,hwr,hxe,hd⟩:=Dh q3 hr0 hg rfl;obtain⟨F2,⟨I1,S1⟩,rd⟩:=tS q3 ht hd;have hl1:h.length<=h1.length:=by rw[S1.hl];exact hb
     have hsg:=eA ac hg1;refine⟨_,F2,rfl,S1.fm,S1.leF,I1.takeH (by rw[htk];exact hu),mkSt F2 h1 (q4.trans S1) hl1,x,hx,hx1,hwr,rd,hxe,λg hg=>?_,λi e' b hi hob=>?_⟩
     .obtain⟨p1,p2⟩:=I1.priv s e _ hsg trivial g hg
      grind
     ·have hlt:i<h.length:=by
       have:=bj hi;rw[Zr]at this;omega
      have hi2:h1[i]?=some (e',b):=by rw[<-List.getElem?_take_of_lt hlt];exact hi
      have e2:(φ'.take h.length).getD i 0=φ'.getD i 0:=by rw[Z6,Z6,List.getElem?_take_of_lt hlt]
      rw[e2];obtain⟨p1,p2⟩:=I1.inj i e' b s e _ hi2 hob hsg trivial aa
      grind
    rw[<-htk];rcases hv with⟨hr2,rfl⟩|⟨y,hr2,rfl⟩
    .rw[hr2]at hrw;obtain⟨c,F2,rfl,_,_,i1,s1,ni⟩:=prt _ hrw;exact⟨n+1,_,H',_,F2,hcall,i1,s1,c,rfl,ni⟩
    .rw[hr2]at hrw;simp only[RV,RVs]at hrw;obtain⟨_,rfl,w1,_,rfl,r1,w2,_,rfl,r2,rfl⟩:=hrw;obtain⟨c,F2,rfl,_,lf,i1,s1,ni⟩:=prt w1 (by simpa only[RV]using r1);exact⟨n+1,_,H',_,F2,hcall,i1,s1,c,w2,rfl,ni,RD.mono lf _ _ r2⟩
   refine⟨n+1,w,H',_,F',?_,It,St,?_⟩
   .grind[d8]
   ·have newI:∀s e len cap k cs ex2 w,RV φ' F' H' h' (.ref s e 0 len cap (List.length (α:=D) cs)) w->h.length<=s->ax h' s e=.data k cs ex2 false->fu (φ'.take h.length) F' G H' (h'.take h.length) k cs ex2 len cap w:=by
     intro s e len cap k cs ex2 w hrw hs hg;have hsg:=eA ac hg;obtain⟨rfl,x,hx,h1,hd,hex,hez,hk,_,hwr⟩:=tj q3 hrw hg rfl;have hex:=hex (.inl rfl);refine⟨_,x,rfl,hx,h1,hwr rfl,hd,hex,λe=>(hez e).resolve_left (by rw[hex,e];simp),hk,λg hg=>?_,λi e' b hi hob=>?_⟩
     .obtain⟨p1,p2⟩:=q3.priv s e _ hsg rfl g hg
      grind
     ·have hlt:i<h.length:=by
       have:=bj hi;rw[Zr]at this;omega
      have hi2:h'[i]?=some (e',b):=by rw[<-List.getElem?_take_of_lt hlt];exact hi
      have e2:(φ'.take h.length).getD i 0=φ'.getD i 0:=by rw[Z6,Z6,List.getElem?_take_of_lt hlt]
      rw[e2];obtain⟨p1,p2⟩:=q3.inj i e' b s e _ hi2 hob hsg rfl aa
      grind
    rcases hres with⟨rfl,hun⟩|⟨rfl,x,h3,ht⟩|⟨s,e,len,cap,k,cs,ex2,hr2,hs,hg,rfl⟩|⟨k,rfl,hr2|⟨s,e,hr2,hs,hg⟩⟩|⟨s,e,len,cap,k,cs,ex2,y,hr2,hs,hg,rfl⟩|hrec'
    .have:=RV.take _ _ hun hrw;unfold YN;split
     .rename_i heq;rw[heq]at hun;cases hun
     .rename_i heq;rw[heq]at hun;cases hun
     .grind[under,jF]
     .grind[under,jF]
     .grind[under,jF]
     omega
    .grind[Dc,YN,RV,RD]
    .exact newI _ _ _ _ _ _ _ _ (by grind) hs hg
    .rw[hr2]at hrw;simp only[RV,RD]at hrw;exact .inl hrw.1
    .exact .inr (newI s e 0 0 k [] true _ (by grind) hs hg)
    .rw[hr2]at hrw;simp only[RV,RVs]at hrw;obtain⟨_,rfl,w1,_,rfl,r1,w2,_,rfl,r2,rfl⟩:=hrw;exact⟨w1,w2,rfl,newI s e len cap k cs ex2 w1 (by trivial) hs hg,r2⟩
    .exact absurd hrec' hrec
  cases ex
  case normal=>grind
  case ret=>grind
  all_goals exact q2.elim
 trivial
theorem Sn(hV:VOk Y):Closed Y ⟨B8 Y,Gc Y⟩:=by
 constructor
 .intro f ds v hu;rcases hu with⟨C,hC,ha,ho,fn,m,a,hf,hok,hd⟩|⟨ahZ,w,ho,rfl,rfl,has,hw⟩
  .exact adJ hV ⟨hC.1,hC.2⟩ ha ho hf hok hd
  .intro F H args wf hF g hargs;have:args=ahZ:=LS has (hargs [] []);subst this;refine⟨1,w,H,F,?_,Z8 _,wf,λ_ _=>rfl,λ_ h=>h,λ_ h=>.inl h,hF,?_,λ_ _ h=>h,λφ0 h0=>PF hw⟩
   .grind[d8]
   .intro c x hc hx;have:=AH.get_lt hx;omega
 .intro f args h v h' ⟨C,hC,ha,ho,fn,m,a,hf,hok,hd⟩;exact aaQ hV ⟨hC.1,hC.2⟩ ha ho hf hok hd
theorem af4(hV:VOk Y){f:FuncId}{ds:List V}(hc:CP Y f ds v):B8 Y f ds v:=hc _ (Sn hV)
end
abbrev nnQ:Nat×Bk:=(0,.none)
abbrev nPQ:D:=.pl (.slice none 0 0)
abbrev LdQ:=List D
abbrev LwQ:=List V
abbrev kkQ:=V->Hp->Prop
abbrev I(n:Int):V:=.d (.int .i64 n)
abbrev B(b:Bool):V:=.d (.bool b)
end Go.Vm
