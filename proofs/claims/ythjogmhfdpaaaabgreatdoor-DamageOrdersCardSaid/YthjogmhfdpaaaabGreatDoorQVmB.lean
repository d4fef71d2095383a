/- Lemmas. -/
import Derived.Test.YthjogmhfdpaaaabGreatDoorQVmA
set_option linter.unusedVariables false
set_option linter.unusedSimpArgs false
open Option renaming some->Wf,none->Vc
open Bool renaming true->Th,false->SM
open Go renaming Value->vl,FuncId->fI,Program->pG,TypeId->tI,Oper->oR,Operand->oP,Exit->eX
open List renaming replicate->So,length->RW
namespace Go.Vm
open Go Go.Am
variable{r:vl×AH}{H' H1:AH}{x y:bv}{b s n Nd e0 off sz i m j e tot b':Nat}{P:pG}{dr draw:Bool}{cs cells:List D}{q:V->Hp->Prop}{x' y' w:vl}{b0:Bk}{ws a a' al:au}{RK env1:Env}{dst rid RC:Option Nat}{v:V}{o:oR}{RM:Array oR}{F' G':Nat->Prop}{φ' outs asF Pc:ax}{h' h0:Hp}
section
variable{φ:ax}{F G:Nat->Prop}{H:AH}{h:Hp}
theorem dS.all{r:Nat}(N:dS φ F G h H H' r x)(hr:r=H.n):∀c,c<H.n->H'.get c=H.get c:=λc hc=>N.old c hc aa
theorem H4{P:pG}(I:Inv φ F G H h){s k n Nd:Nat}{x':vl}{cs:List D}{vs:au}{len:Nat}{pre:List D}{wpre:au}{q:V->Hp->Prop}(hn:0<n)(hr:bj F H (pre++cs) (wpre++vs))
  (hq:new h s (.data n (pre++cs) SM SM) λe h=>q (.ref s e 0 len len (RW (pre++cs))) h)
  (hA:fh P H n Nd x' k vs=Wf (.slice (Wf ⟨H.n,0,Vc⟩) len len,H.push (jv H.n n (wpre++vs)))) {U:Prop}:bN U φ F G H h q (fh P H n Nd x' k vs):=by obtain⟨e,b0,hs,hk⟩:=pf hq;have N:dS φ F G h H (H.push (jv H.n n (wpre++vs))) H.n (jv H.n n (wpre++vs)):=dS.push I rfl rfl;obtain⟨I',S',_,hv⟩:=GX I hs (ex:=false) (n:=n) hr N rfl rfl rfl (λ_=>rfl) hn;exact⟨_,_,_,_,_,_,hA,hk,I',S',hv 0 len len _ rfl,λ_=>N.all rfl⟩
theorem WL(w:WF H)(hx:H.get b=Wf x)(h1:x.st=1)(pos off n:Nat)(cells:au):
  pM H (((H.set b {x with shared:=Th,ver:=x.ver+1}).kill (beyond b x.fam pos)).push (ma x off n cells)) x H.n (ma x off n cells):=by
 have w1:WF (H.set b {x with shared:=Th,ver:=x.ver+1}):=w.set hx (w.fam b x hx);have hb:=AH.get_lt hx;refine⟨ac,?_,?_,?_,rfl,rfl,?_⟩
 .intro c y hy;have hc:=AH.get_lt hy;rw[AH.get_push_old cU,AH.get_kill,AH.get_set hx];by_cases hcb:c=b
  .subst hcb;rw[hx]at hy;cases hy;rw[ip rfl];refine⟨_,rfl,.inr ⟨rfl,h1,?_,?_⟩⟩<;>dsimp only
   .split
    .simp
    grind
   .split<;>rfl
  .rw[iN hcb,hy];refine⟨_,rfl,?_⟩;dsimp only;split
   .rename_i hk;simp only[beyond,Z7,beq_iff_eq,dT]at hk;exact .inr ⟨hk.1.1.1,hk.1.2,ac,rfl⟩
   simp
 .intro c y hc hy;have:=AH.get_lt hy;simp at this;omega
 .simp[AH.get_push_new,AH.kill]
 ·have:=(w1.kill (beyond b x.fam pos)).push (x:=ma x off n cells) (by
   show x.fam<=H.n
   have:=w.fam b x hx;omega)
  omega
theorem OO(I:Inv φ F G H h)(hn:0<n){x:V}{k:Nat}(hq:kK dr s n Nd x k cs h q)(hx:RV φ F H h x x'){vs:au}(hr:bj F H cs vs):
  bN (dr=Th) φ F G H h q (fh P H n Nd x' k vs):=by
 unfold kK at hq;split at hq
 .rename_i h0;subst h0
  have fin:(∃a b c,x'=.slice (Wf ⟨a,b,Vc⟩) c c∨∃d,x'=.slice (Wf ⟨a,b,Vc⟩) c d∧c<=d)∨x'=.slice Vc 0 0->q x h->bN (dr=Th) φ F G H h q (fh P H n Nd x' 0 vs):=by
   intro hs hq
   have:fh P H n Nd x' 0 vs=Wf (x',H):=by
    rcases hs with⟨a,b,c,rfl|⟨d,rfl,hd⟩⟩|rfl
    .simp[fh]
    .have:¬d<c:=aa
     grind[fh]
    .rfl
   rw[this];exact bN.pure I hq hx
  split at hq
  .simp only[RV,RD]at hx;refine fin ?_ hq;rcases hx with⟨rfl,rfl,e|⟨c,o,cap,rfl,_⟩⟩|⟨c,o,cap,us,m,rfl,_,hc,_⟩
   .grind
   .grind
   grind
  .grind[RV,RD]
  .grind[RV]
  .grind[RV]
  trivial
 .rename_i hk0;split at hq
  .split at hq
   .rename_i hb;simp[RV,RD]at hx;obtain⟨rfl,_⟩:=hx;exact H4 (P:=P) I (pre:=[]) (wpre:=[]) hn cU cU (by grind[fh])
   trivial
  .rename_i m;split at hq
   .rename_i hb;obtain⟨rfl,hb⟩:=hb;simp only[RV]at hx;obtain⟨c,o,y,rfl,hF,hy,hy1,ho,hfit⟩:=hx;refine H4 (P:=P) I (pre:=[]) (wpre:=[]) hn cU cU ?_;simp only[fh];rw[iN aa,iN hk0,iN aa,ip ae,hy];simp only[Wb,Nat.add_zero,List.take_zero,List.nil_append,Zh];rw[ip ⟨hy1,aa⟩,ip]
    grind
   trivial
  .rename_i s' e off len cap tot;split at hq
   .rename_i m old ex fr hg;split at hq
    .rename_i hc;obtain⟨rfl,ht,hlc,hcap,hcs⟩:=hc;obtain⟨rfl,y,hy,hy1,hd,hex,hez,hm,hff,hwr⟩:=sC I hx hg ht;have hs':=lj ac hg;have hyl:=hd.length;have hvl:=hr.length
     have hlm:off+len*m<=RW old:=by
      have:=Zu m hlc;omega
     split at hq
     .rename_i Fk;split at hq
      .trivial
      .rename_i hfd;simp[X4,not_or,Bool.not_eq_true]at hfd;obtain⟨rfl,rfl⟩:=hfd;have hmul:len*m+k*m=(len+k)*m:=(Nat.add_mul ..).symm;have hle2:=Zu m Fk;obtain⟨H',hw,I',S'⟩:=EN I hg hr (off:=off+len*m) aa;refine⟨.ref s' e off (len+k) cap tot,_,_,_,.slice (Wf ⟨φ.getD s' 0,off,Vc⟩) (len+k) cap,H',?_,?_,I',S',?_,λe=>by cases e⟩
       .simp only[fh];rw[iN aa,iN hk0,ip Fk,hw]
       .have:off+len*m+RW cs=off+(len+k)*m:=aa
        grind
       .have:=RV.mono S'.leF S'.sl _ _ hx;simp only[RV]at this ⊢;exact⟨⟨_,_,rfl⟩,this.2.1,λm hm=>⟨(this.2.2 m hm).1,λ_=>by first|rfl|trivial⟩⟩
     .rename_i Fk;split at hq
      .rename_i hby
       have hA:∀z,(if y.exact=Th∨(y.esz=m∧off+cap*m<RW y.cells)then Wf (vl.slice (Wf ⟨H.n,0,Vc⟩) (len+k) (len+k),H.push (jv H.n m ((y.cells.drop off).take (len*m)++vs)))
         else if y.wr=Th∧y.esz=m∧off+cap*m=RW y.cells∧vs.all okCell=Th then
          Wf (vl.slice (Wf ⟨H.n,0,Vc⟩) (len+k) (len+k),(((H.set (φ.getD s' 0) {y with shared:=Th,ver:=y.ver+1}).kill (beyond (φ.getD s' 0) y.fam (y.start+off+len*m))).push (ma y off m ((y.cells.drop off).take (len*m)++vs))))
         else Vc)=Wf z->fh P H m Nd (.slice (Wf ⟨φ.getD s' 0,off,Vc⟩) len cap) k vs=Wf z:=by
        intro z hz;simp only[fh];rw[iN aa,iN hk0,iN Fk,ip hby,hy];simp only;rw[ip ⟨hy1,aa⟩];exact hz
       have hpre:bj F H ((old.drop off).take (len*m)++cs) ((y.cells.drop off).take (len*m)++vs):=((hd.drop off).take _).append hr;have DP:RW ((old.drop off).take (len*m))=len*m:=by rw[Zp,Yl];omega
       split at hq
       .rename_i hexx
        refine H4 (P:=P) I (len:=len+k) hn hpre (by
         have:RW ((old.drop off).take (len*m)++cs)=len*m+RW cs:=by rw[List.length_append,DP]
         rw[this];exact hq) (hA _ ?_)
        rw[ip (.inl (by rw[hex (.inr hexx),hexx]))]
       .rename_i hexx;have hexx:ex=SM:=by cases ex<;>simp_all
        subst hexx;split at hq
        .trivial
        .rename_i hfd;simp[X4,not_or,Bool.not_eq_true]at hfd;obtain⟨rfl,rfl⟩:=hfd;split at hq
         .rename_i hend;have hex:=hex (.inl rfl);have hesz:y.esz=m:=(hez rfl).resolve_left (by rw[hex];simp);have T:=WL I.wf hy hy1 (y.start+off+len*m) off m ((y.cells.drop off).take (len*m)++vs);have hblen:RW ((old.drop off).take (len*m)++cs)=len*m+RW cs:=by rw[List.length_append,DP]
          obtain ⟨I',S'⟩:=I.touch hs' rfl hy hy1 T (.inr (Z8 _)) (b':=.data m ((old.drop off).take (len*m)++cs) SM SM) (m:=RW old) (m':=len*m+RW cs) rfl (by grind[jD]) aa (λe=>by omega)
           λhl hsl=>⟨_,T.get,rfl,bj.mono hl _ _ hpre,λ_=>rfl,λ_=>.inr rfl,hm,λe=>absurd e ac,λ_=>rfl⟩
          refine⟨_,_,_,_,.slice (Wf ⟨H.n,0,Vc⟩) (len+k) (len+k),_,hA _ ?_,hq,I',S',?_,λe=>by cases e⟩
          .rw[iN,ip ⟨hwr rfl,hesz,aa,hr.okCells⟩];rintro(e|e)
           .grind
           .omega
          .simp only[RV];have hsl:=gD hs';have hg':(bP h s' e (.data m ((old.drop off).take (len*m)++cs) SM SM))[s']?=Wf (e,.data m ((old.drop off).take (len*m)++cs) SM SM):=by rw[uy hsl,ip rfl]
           refine⟨⟨_,_,rfl⟩,by grind[ep],λm' hm'=>?_⟩;rw[ij hg']at hm';cases hm';exact⟨aa,λ_=>by rw[iP (by grind[Inv.len]),ip rfl]⟩
         .split at hq
          .rename_i hin
           refine H4 (P:=P) I (len:=len+k) hn hpre (by
            have:RW ((old.drop off).take (len*m)++cs)=len*m+RW cs:=by rw[List.length_append,DP]
            rw[this];exact hq) (hA _ ?_)
           rw[ip];rcases hez rfl with e|e
           .exact .inl e
           .exact .inr ⟨e,aa⟩
          trivial
      trivial
    trivial
   trivial
  trivial
theorem aqi(I:Inv φ F G H h)(hn:0<n){x y:V}(hq:cV dr s n Nd x y h q)(hx:RV φ F H h x x')(hy:RV φ F H h y y'):
  ∃k vs,fH H n y'=Wf (k,vs)∧bN (dr=Th) φ F G H h q (fh P H n Nd x' k vs):=by
 unfold cV at hq;split at hq
 .rename_i t;split at hq
  .rename_i h1;subst h1;rw[sj]at hy;subst hy;refine⟨RW t,t.map λb=>.int .u8 b.toNat,aM,OO I hn hq hx ?_⟩
   have:∀l:bA,bj F H (l.map λb=>D.int .u8 b.toNat) (l.map λb=>vl.int .u8 b.toNat):=by
    intro l
    induction l with
    |nil=>rfl
    |cons b l ih=>grind[bj,RD]
   grind
  trivial
 grind[Oj,OO]
theorem aco(I:Inv φ F G H h){x:V}{k:Nat}{vs:List V}(hc:qC h x=Wf (k,vs))(hk:0<k)(hx:RV φ F H h x x'):RW vs=k∧∃ws,fH H 1 x'=Wf (k,ws)∧aK φ F H h vs ws:=by
 unfold qC at hc;split at hc
 .rename_i s e off len cap tot;split at hc
  .rename_i cs hg;split at hc
   .rename_i ht;cases hc
    have hw:x'=.slice (Wf ⟨φ.getD s 0,off,Vc⟩) k cap:=by
     simp only[RV]at hx;exact(hx.2.2 (RW cs) (by rw[hg];rfl)).2 ht.1
    subst hw;obtain⟨y,hy,hy1,_,_,hd⟩:=I.blk s e _ (lj ac hg);have hl:=hd.length;refine⟨by rw[Zp,Yl];omega,(y.cells.drop off).take k,?_,(hd.drop off).take _⟩;simp only[fH];rw[iN aa,oY hy hy1 aa,Y1];rfl
   .cases hc
  .cases hc
 .cases hc
theorem LL(I:Inv φ F G H h)(hs:h[s]?=Wf (e0,b0)){cs:List V}(hr:aK φ F H h cs ws){r:Nat}(N:dS φ F G h H H' r x)(hw:x.wr=Th)(hx:x.cells=ws)(hxe:x.exact=Th∨x.esz=1)(len:Nat):
  Inv (φ.set s r) F G H' (h.set s (e0+1,.vars cs))∧Stp G φ F H h (φ.set s r) F H' (h.set s (e0+1,.vars cs))∧RV (φ.set s r) F H' (h.set s (e0+1,.vars cs)) (.ref s (e0+1) 0 len len (RW cs)) (.slice (Wf ⟨r,0,Vc⟩) len len):=by
 obtain⟨I',S'⟩:=I.new hs N (b:=.vars cs) λhl hsl=>⟨_,N.get,N.st,hw,hxe,by rw[hx];exact aK.mono hl hsl _ _ hr⟩
 refine⟨I',S',?_⟩;obtain⟨g1,g2⟩:=tO (b:=.vars cs) hs;have hsl:=gD hs;simp only[RV];refine⟨⟨_,_,rfl⟩,aa,λm hm=>?_⟩;rw[g1]at hm;cases hm;exact⟨Z8 _,λ_=>by rw[iP (by rw[I.len];exact hsl),ip rfl]⟩
theorem aqh(I:Inv φ F G H h){x y:V}(hq:nf dr s n Nd x y h q)(hx:RV φ F H h x x')(hy:RV φ F H h y y'):
  ∃k vs,fH H n y'=Wf (k,vs)∧bN (dr=Th) φ F G H h q (fh P H n Nd x' k vs):=by
 unfold nf at hq;split at hq
 .rename_i k vs hv;split at hq
  .rename_i hc;obtain⟨Is,hk,rfl⟩:=hc;obtain⟨hvl,ws,hws,hr⟩:=aco I hv hk hy;have hwl:=hr.length;refine⟨k,ws,hws,?_⟩;split at hq
   .split at hq
    .rename_i hb;simp[RV,RD]at hx;obtain⟨rfl,_⟩:=hx;obtain⟨e,b0,hs,hq⟩:=pf hq;have N:dS φ F G h H (H.push (jv H.n 1 ws)) H.n (jv H.n 1 ws):=dS.push I rfl rfl;obtain⟨I',S',hv'⟩:=LL I hs hr N rfl rfl (.inr rfl) k;refine⟨_,_,_,_,_,_,?_,hq,I',S',hv',λ_=>N.all rfl⟩;simp[fh];rw[iN aa,ip hb]
    .trivial
   .rename_i s' e off len cap tot;split at hq
    .rename_i old hg;split at hq
     .rename_i hcc;obtain⟨rfl,ht,hlc,hcap⟩:=hcc
      have hw:x'=.slice (Wf ⟨φ.getD s' 0,off,Vc⟩) len cap:=by
       simp only[RV]at hx;exact(hx.2.2 (RW old) (by rw[hg];rfl)).2 ht
      subst hw;have hs':=lj ac hg;obtain⟨z,hz,hz1,hwr,hfit,hd⟩:=I.blk s' e _ hs';have hzl:=hd.length;split at hq
      .rename_i Fk;obtain⟨H',hw,I',S'⟩:=Pb I hg hr (off:=off+len) aa Is;rw[hvl]at I' S';refine⟨_,_,_,_,.slice (Wf ⟨φ.getD s' 0,off,Vc⟩) (len+k) cap,H',?_,hq,I',S',?_,λe=>by cases e⟩
       .simp only[fh];rw[iN aa,iN aa,ip Fk,Y1,hw]
       .have:=RV.mono S'.leF S'.sl _ _ hx;simp only[RV]at this ⊢;exact⟨⟨_,_,rfl⟩,this.2.1,λm hm=>⟨(this.2.2 m hm).1,λ_=>by first|rfl|trivial⟩⟩
      .rename_i Fk;split at hq
       .rename_i hg2;obtain⟨hby,hend,hlt2⟩:=hg2;have hpre:aK φ F H h ((old.drop off).take len++vs) ((z.cells.drop off).take len++ws):=((hd.drop off).take _).append hr;have DP:RW ((old.drop off).take len++vs)=len+k:=by rw[List.length_append,Zp,Yl];omega
        have hA:∀r,(if z.exact=Th∨(z.esz=1∧off+cap*1<RW z.cells)then Wf (vl.slice (Wf ⟨H.n,0,Vc⟩) (len+k) (len+k),H.push (jv H.n 1 ((z.cells.drop off).take (len*1)++ws)))
          else if z.wr=Th∧z.esz=1∧off+cap*1=RW z.cells∧ws.all okCell=Th then
           Wf (vl.slice (Wf ⟨H.n,0,Vc⟩) (len+k) (len+k),(((H.set (φ.getD s' 0) {z with shared:=Th,ver:=z.ver+1}).kill (beyond (φ.getD s' 0) z.fam (z.start+off+len*1))).push (ma z off 1 ((z.cells.drop off).take (len*1)++ws))))
          else Vc)=Wf r->fh P H 1 Nd (.slice (Wf ⟨φ.getD s' 0,off,Vc⟩) len cap) k ws=Wf r:=by
         intro r hr2;simp only[fh];rw[iN aa,iN aa,iN Fk,ip hby,hz];simp only;rw[ip ⟨hz1,aa⟩];exact hr2
        by_cases hex:z.exact=Th
        .have N:dS φ F G h H (H.push (jv H.n 1 ((z.cells.drop off).take (len*1)++ws))) H.n (jv H.n 1 ((z.cells.drop off).take (len*1)++ws)):=dS.push I rfl rfl;obtain⟨I',S',hv'⟩:=LL I hs' hpre N rfl (by rw[Y1];rfl) (.inr rfl) (len+k);rw[DP]at hv';exact⟨_,_,_,_,_,_,hA _ (by rw[ip (.inl hex)]),hq,I',S',hv',λe=>by cases e⟩
        .have hesz:z.esz=1:=hfit.resolve_left hex;have T:=WL I.wf hz hz1 (z.start+off+len*1) off 1 ((z.cells.drop off).take (len*1)++ws)
         obtain ⟨I',S'⟩:=I.touch hs' trivial hz hz1 T (.inr (Z8 _)) (b':=.vars ((old.drop off).take len++vs)) (m:=RW old) (m':=len+k) rfl (by simp only[jD];rw[DP]) aa (λe=>absurd e aa)
          λhl hsl=>⟨_,T.get,rfl,rfl,.inr rfl,by
           have:=aK.mono hl hsl _ _ hpre;rw[show(z.cells.drop off).take len=(z.cells.drop off).take (len*1) by rw[Y1]]at this;exact this⟩
         have hsl:=gD hs';have hg':(bP h s' e (.vars ((old.drop off).take len++vs)))[s']?=Wf (e,.vars ((old.drop off).take len++vs)):=by rw[uy hsl,ip rfl]
         obtain⟨I2,S2⟩:=I'.renew hg';have eh:(bP h s' e (.vars ((old.drop off).take len++vs))).set s' (e+1,.vars ((old.drop off).take len++vs))=h.set s' (e+1,.vars ((old.drop off).take len++vs)):=by simp[bP]
         rw[eh]at I2 S2;refine⟨_,_,_,_,.slice (Wf ⟨H.n,0,Vc⟩) (len+k) (len+k),_,hA _ ?_,hq,I2,S'.trans S2,?_,λe=>by cases e⟩
         .rw[iN,ip ⟨hwr,hesz,aa,Lx Is hr⟩];rintro(e|e)
          .exact hex e
          .omega
         .simp only[RV];have hg2:(h.set s' (e+1,.vars ((old.drop off).take len++vs)))[s']?=Wf (e+1,.vars ((old.drop off).take len++vs)):=by simp[hsl]
          refine⟨⟨_,_,rfl⟩,by simp[ep,hsl],λm' hm'=>?_⟩;rw[ij hg2]at hm';simp only[jD,Z9]at hm';exact⟨aa,λ_=>by rw[iP (by rw[I.len];exact hsl),ip rfl]⟩
       .trivial
     .trivial
    .trivial
   .trivial
  .trivial
 .trivial
end
section
variable{φ:ax}{F G:Nat->Prop}{H:AH}{h:Hp}
theorem foldl_set(off:Nat):∀(l:au)(k:Nat)(cs:Array vl),off+k+RW l<=cs.size ->
  ((l.zipIdx k).foldl (λ(cs:Array vl)(x:vl×Nat)=>cs.setIfInBounds (off+x.2) x.1) cs).toList=cs.toList.take (off+k)++l++cs.toList.drop (off+k+RW l)
 |[],k,cs,_=>by simp
 | v::l,k,cs,hb=>by
  simp only[List.zipIdx_cons,List.foldl_cons];simp[List.length_cons]at hb;rw[foldl_set off l (k+1) _ ae];have hk:off+k<RW cs.toList:=by simp;omega
  rw[Array.toList_setIfInBounds]
  have e1:(cs.toList.set (off+k) v).take (off+(k+1))=cs.toList.take (off+k)++[v]:=by
   rw[show off+(k+1)=(off+k)+1 by omega,Wq,List.take_set_of_le (Z8 _),List.getElem?_set_self hk];rfl
  have e2:(cs.toList.set (off+k) v).drop (off+(k+1)+RW l)=cs.toList.drop (off+k+(RW l+1)):=by
   rw[List.drop_set_of_lt aa,show off+(k+1)+RW l=off+k+(RW l+1) by omega]
  simp_all
theorem amm(KK:Nat->Option (Nat×Nat))(cells:Array vl)(i:Nat)(v:vl)(rest:List (Nat×vl))(hp:KK i=Wf (off,sz))(hs:v.cells.size=sz)(hb:off+sz<=cells.size):
  ∃c',c'.toList=cells.toList.take off++v.cells.toList++cells.toList.drop (off+sz)∧Instr.fill KK cells ((i,v)::rest)=Instr.fill KK c' rest:=by
 refine⟨(v.cells.toList.zipIdx.foldl (λ(cs:Array vl)(x:vl×Nat)=>cs.setIfInBounds (off+x.2) x.1) cells),?_,?_⟩
 .simp_all[foldl_set]
 grind[Instr.fill,Array.toList_zipIdx]
def nX(φ:ax)(F:Nat->Prop)(H:AH)(h:Hp):List (Nat×V)->List (Nat×vl)->Prop
 |[],l=>l=[]
 |(i,v)::r,l=>∃w q,l=(i,w)::q∧RV φ F H h v w∧nX φ F H h r q
theorem Ii(KK:Nat->Option (Nat×Nat)):∀{ps:List (Nat×V)}{qs:List (Nat×vl)}{cs rs:List V}{cells:Array vl},kz KK cs ps=Wf rs->nX φ F H h ps qs->aK φ F H h cs cells.toList ->
  ∃r,Instr.fill KK cells qs=Wf r∧aK φ F H h rs r.toList
 | [],_,cs,rs,cells,hf,hp,hc=>by
  simp[nX]at hp;subst hp;simp[kz,Z9]at hf;subst hf;exact⟨cells,rfl,hc⟩
 | (i,v)::ps,_,cs,rs,cells,hf,hp,hc=>by
  simp[nX]at hp;obtain⟨w,q,rfl,hv,hq⟩:=hp;unfold kz at hf;split at hf
  .cases hf
  .rename_i off sz DP;split at hf
   .cases hf
   .rename_i vs hvs;split at hf
    .rename_i hb;have hr:=Ol hvs hv;have h1:=hr.length;have h2:=hc.length;simp[Array.length_toList]at h1 h2;obtain⟨c',hc',hfill⟩:=amm KK cells i w q DP aa aa;rw[hfill];refine Ii KK hf hq ?_;rw[hc'];have:off+sz=off+RW vs:=aa
     grind[aK.append,aK.take,aK.drop]
    trivial
theorem aps{P:pG}{t:tI}{fs:List (Nat×Nat)}{gs:Array Field}{z:List D}(hu:P.underlying t=Wf (.struct gs))(hg:gs.toList.map (λf=>(f.offset,cn P f.type))=fs.map λp=>(p.1,Wf p.2))
  {zv:vl} (hz:fX P t=Wf zv) (DP:plain zv=Th) (hzz:zv.cells.toList.map dL=z) (Is:∀c∈zv.cells.toList,iH c) {ps:List (Nat×V)} {qs:Array (Nat×vl)} (hp:nX φ F H h ps qs.toList)
  {v:V} (hv:fG fs z ps=Wf v):∃w,zo P t qs=Wf w∧RV φ F H h v w:=by
 unfold fG at hv;split at hv
 .rename_i l hl;cases hv
  have hpl2:(λi:Nat=>fs[i]?)=λi:Nat=>(gs.map λf=>(f.offset,(cn P f.type).getD 0))[i]?:=by
   funext i;have:=RT (·[i]?) hg;simp only[List.getElem?_map]at this;rw[<-Array.getElem?_toList,Array.toList_map,List.getElem?_map];cases h1:fs[i]? with
   | none=>
    cases h2:gs.toList[i]? with
    |none=>rfl
    |some f=>grind
   | some p=>
    grind
  have hall:gs.all (λf=>(cn P f.type).isSome)=Th:=by
   rw[<-Array.all_toList,Zz];intro f hf;obtain⟨i,hi⟩:=List.getElem?_of_mem hf;have:=RT (·[i]?) hg;simp[List.getElem?_map,hi,Option.map_some]at this;cases h1:fs[i]? with
   |none=>grind
   | some p=>
    grind
  have hzr:aK φ F H h (z.map .d) zv.cells.toList:=by rw[<-hzz];exact aK.ofD (yy Is)
  grind[Ii,RV,zo]
 trivial
theorem apu{P:pG}{t e:tI}{len n:Nat}{z:List D}(hu:P.underlying t=Wf (.array len e))(hn:cn P e=Wf n)
  {zv:vl} (hz:fX P t=Wf zv) (DP:plain zv=Th) (hzz:zv.cells.toList.map dL=z) (Is:∀c∈zv.cells.toList,iH c) {ps:List (Nat×V)} {qs:Array (Nat×vl)} (hp:nX φ F H h ps qs.toList)
  {v:V} (hv:OC n z ps=Wf v):∃w,zo P t qs=Wf w∧RV φ F H h v w:=by
 unfold OC at hv;split at hv
 .rename_i l hl;cases hv;have hzr:aK φ F H h (z.map .d) zv.cells.toList:=by rw[<-hzz];exact aK.ofD (yy Is)
  grind[Ii,RV,zo]
 trivial
theorem abN(l:au)(k:Nat):fj l ((k+1)*RW l)=l++fj l (k*RW l):=by
 apply Ye;intro i;unfold fj;by_cases hi:i<RW l
 .grind[X6]
 .rw[List.getElem?_append_right aa,List.getElem?_map,List.getElem?_map];have e:(k+1)*RW l=k*RW l+RW l:=by rw[Nat.add_mul];omega
  by_cases h2:i<(k+1)*RW l
  .rw[List.getElem?_range h2,List.getElem?_range aa,Option.map_some,Option.map_some,Nat.mod_eq_sub_mod aa]
  .rw[List.getElem?_eq_none ae,List.getElem?_eq_none ae]
theorem Co{l:au}(Is:∀c∈l,iH c):∀k,bj F H (dI k (l.map dL)) (fj l (k*RW l))
 |0=>by simp[dI,fj,bj]
 | k+1=>by
  rw[abN];exact(yy Is).append (Co Is k)
theorem UW{P:pG}{t e:tI}{len:Nat}{z:List D}(hu:P.underlying t=Wf (.slice e))
  {zv:vl} (hn:cn P e=Wf zv.cells.size) (hz:fX P e=Wf zv) (DP:plain zv=Th) (hzz:zv.cells.toList.map dL=z) (Is:∀c∈zv.cells.toList,iH c) {ps:List (Nat×V)} {qs:Array (Nat×vl)} (hp:nX φ F H h ps qs.toList)
  {vs:List V} (hv:kz (λi=>Wf (i*RW z,RW z)) ((dI len z).map .d) ps=Wf vs) (h0:0<RW z) (hl:len*RW z<=16777216) (rid:Option Nat) :
  ∃ ws,aK φ F H h vs ws∧rG P H rid t len qs=match kX H rid ws with
   |some (b,H')=>Wf (.slice (Wf ⟨b,0,Vc⟩) len len,H')
   |none=>Vc:=by
 have hzl:RW z=zv.cells.size:=by rw[<-hzz];simp
 have hzr:aK φ F H h ((dI len z).map .d) (fj zv.cells.toList (len*zv.cells.size)).toArray.toList:=by
  have:=Co (F:=F) (H:=H) Is len;rw[hzz]at this;simpa using aK.ofD (φ:=φ) (h:=h) this
 rw[hzl]at hv h0 hl;obtain⟨r,hr,hrv⟩:=Ii _ hv hp hzr
 grind[rG]
theorem XM(KK:Nat->Option (Nat×Nat)):∀{ps:List (Nat×V)}{cs rs:List V},kz KK cs ps=Wf rs->RW rs=RW cs
 |[],cs,rs,hf=>by grind[kz]
 | (i,v)::ps,cs,rs,hf=>by
  unfold kz at hf;split at hf
  .cases hf
  .split at hf
   .cases hf
   .split at hf
    .rename_i hb;rw[XM KK hf]
     grind
    trivial
theorem Su(z:List D):∀n,RW (dI n z)=n*RW z
 |0=>by simp[dI]
 |n+1=>by simp only[dI,List.length_append,Su z n,Nat.add_mul];omega
theorem PY:∀{vs:List V}{h h':Hp}{xs:List D},d8 h vs=Wf (xs,h')->RW xs=RW vs
 |[],_,_,_,ht=>by cases ht;rfl
 | v::vs,h,h',xs,ht=>by
  unfold d8 at ht;split at ht
  .split at ht
   .rename_i hx;cases ht;simp[PY hx]
   trivial
  trivial
theorem UV{P:pG}(I:Inv φ F G H h){rid:Option Nat}(U:tC G H rid){t e:tI}{len:Nat}{z:List D}(hu:P.underlying t=Wf (.slice e))
  {zv:vl} (hn:cn P e=Wf zv.cells.size) (hz:fX P e=Wf zv) (DP:plain zv=Th) (hzz:zv.cells.toList.map dL=z) (Is:∀c∈zv.cells.toList,iH c) {ps:List (Nat×V)} {qs:Array (Nat×vl)} (hp:nX φ F H h ps qs.toList)
  {vs:List V} (hvs:kz (λi=>Wf (i*RW z,RW z)) ((dI len z).map .d) ps=Wf vs) (hc:0<RW z∧len*RW z<=16777216) {xs:List D} {h1:Hp} (hx:d8 h vs=Wf (xs,h1)) :
  ∃F1 r H' ws,tD G φ F H h h1 F1∧bj F1 H xs ws∧RW xs=len*RW z∧dS φ F1 G h1 H H' r (fresh r ws)∧rG P H rid t len qs=Wf (.slice (Wf ⟨r,0,Vc⟩) len len,H'):=by obtain⟨ws,hr,hb⟩:=UW hu hn hz DP hzz Is hp hvs hc.1 hc.2 rid;obtain⟨F1,S1,r1⟩:=zR I hx hr;obtain⟨r,H',hm,N⟩:=G7 S1.1 U ws;refine⟨F1,r,H',ws,S1,r1,?_,N,by rw[hb,hm]⟩;rw[PY hx,XM _ hvs,List.length_map,Su]
theorem ajx{P:pG}(I:Inv φ F G H h){rid:Option Nat}(U:tC G H rid){t e:tI}{len:Nat}{z:List D}(hu:P.underlying t=Wf (.slice e))
  {zv:vl} (hn:cn P e=Wf zv.cells.size) (hz:fX P e=Wf zv) (DP:plain zv=Th) (hzz:zv.cells.toList.map dL=z) (Is:∀c∈zv.cells.toList,iH c) {ps:List (Nat×V)} {qs:Array (Nat×vl)} (hp:nX φ F H h ps qs.toList)
  {k:V->Hp->Prop} (hk:cx len z ps h k):bN False φ F G H h k (rG P H rid t len qs):=by
 unfold cx at hk;split at hk
 .rename_i vs hvs;split at hk
  .rename_i hc;split at hk
   .rename_i xs h1 hx;obtain⟨F1,r,H',ws,S1,r1,Rg,N,hb⟩:=UV I U hu hn hz DP hzz Is hp hvs hc hx;rw[hb];obtain⟨I2,S2⟩:=S1.1.newData N;refine⟨_,_,_,_,.slice (Wf ⟨r,0,Vc⟩) len len,H',rfl,hk,I2,S1.2.trans S2,?_,False.elim⟩;simp only[RV,RD];by_cases h0:len=0
    .subst h0;refine .inl ⟨by first|rfl|trivial,Zn aa,.inr ⟨r,0,0,rfl,_,N.get,by simp[fresh]⟩⟩
    .refine .inr ⟨r,0,len,ws,z.length,rfl,aa,Z8 _,hc.1,Rg,.inr rfl,?_,bj.mono S2.leF _ _ r1,_,N.get,.inl rfl⟩;have:=r1.length;rw[oY N.get rfl (by show 0+RW xs<=RW ws;omega)]
     show Wf ((ws.drop 0).take (RW xs))=_
     grind
   trivial
  trivial
 trivial
theorem aoK{P:pG}(I:Inv φ F G H h){t e ty:tI}{ts:Array tI}(hu:(ts[0]?).bind P.underlying=Wf (.slice e))
  {zv:vl} {z:List D} (hn:cn P e=Wf zv.cells.size) (hz:fX P e=Wf zv) (DP:plain zv=Th) (hzz:zv.cells.toList.map dL=z) (Is:∀c∈zv.cells.toList,iH c) {x:V} {x':vl} {k:V->Hp->Prop}
  (hk:Ob h z x k) (hx:RV φ F H h x x'):bN False φ F G H h k (fM P H .clear ts ty [x']):=by
 unfold Ob at hk;split at hk
 .rename_i s e' off len cap tot;split at hk
  .rename_i n cs ex fr hg;split at hk
   .rename_i hc;obtain⟨hl,hzl,hn0,rfl,ht,Fm⟩:=hc;obtain⟨rfl,y,hy,hy1,hd,hex,hesz,_⟩:=sC I hx hg ht
    have hr:bj F H (dI len z) (fj zv.cells.toList (len*zv.cells.size)):=by
     have:=Co (F:=F) (H:=H) Is len;rw[hzz]at this;simpa using this
    obtain⟨H',hw,I2,S2⟩:=EN I hg hr Fm
    have hs0:0<zv.cells.size:=by
     have:RW z=zv.cells.size:=by rw[<-hzz];simp
     omega
    refine⟨_,_,_,_,undef,H',?_,hk,I2,S2,?_,False.elim⟩
    .simp only[fM,hu,hn,hz];rw[ip ⟨DP,by first|rfl|trivial,hs0⟩,iN aa,hw];rfl
    .simp only[RV];exact⟨[],rfl,rfl⟩
   trivial
  trivial
 trivial
theorem aou{P:pG}(I:Inv φ F G H h){e ty:tI}{ts:Array tI}(hu:(ts[0]?).bind P.underlying=Wf (.slice e)){n:Nat}(hn:cn P e=Wf n){x y:V}{x' y':vl}{k:V->Hp->Prop}
  (hk:tf h n x y k) (hx:RV φ F H h x x') (hy:RV φ F H h y y'):bN False φ F G H h k (fM P H .copy ts ty [x',y']):=by
 unfold tf at hk;split at hk
 .rename_i s e' off len cap tot;split at hk
  .rename_i m cs ex fr hg;split at hk
   .rename_i j ys hc;split at hk
    .rename_i hcond;obtain⟨⟨h0,rfl,hn0,rfl⟩,ht,hl,Fm⟩:=hcond;obtain⟨rfl,_⟩:=sC I hx hg ht;obtain⟨ws,hsrc,hr⟩:=Oj I hc hy m hl;have hml:min j len*m<=RW ys:=by rw[hl];exact Zu _ (Nat.min_le_left _ _)
     have hl2:RW (ys.take (min j len*m))=min j len*m:=by rw[Zp];omega
     have hr2:bj F H (ys.take (min j len*m)) (ws.take (min j len*m)):=bj.take _ hr;obtain⟨H',hw,I2,S2⟩:=EN I hg hr2 (by rw[hl2];exact Fm);rw[hl2]at I2 S2;refine⟨_,_,_,_,.int .i64 (min j len:Nat),H',?_,hk,I2,S2,ig.2 rfl,False.elim⟩;simp only[fM,hu,hn,hsrc];rw[iN aa,hw];rfl
    trivial
   trivial
  trivial
 trivial
theorem aaK{F:Nat->Prop}{H:AH}:∀s:bA,bj F H (s.map λb=>.int .u8 b.toNat) (s.map λb=>vl.int .u8 b.toNat)
 |[]=>rfl
 |b::s=>⟨_,_,rfl,rfl,aaK s⟩
theorem aoq{P:pG}(I:Inv φ F G H h){s d e:tI}(hs:P.underlying s=Wf .string)(hd:P.underlying d=Wf (.slice e))(he:P.underlying e=Wf (.int .u8)){x:V}{x':vl}{k:V->Hp->Prop}
  (hk:oG x h k) (hx:RV φ F H h x x'):bN False φ F G H h k (oH P H s d x'):=by
 unfold oG at hk;split at hk
 .rename_i t;rw[sj]at hx;subst hx
  let ws:=t.map λb:UInt8=>vl.int .u8 b.toNat
  have N:dS φ F G h H (H.push (jv H.n 1 ws)) H.n (jv H.n 1 ws):=dS.push I rfl rfl;obtain⟨I2,S2⟩:=I.newData N;refine⟨_,_,_,_,.slice (Wf ⟨H.n,0,Vc⟩) (RW t) (RW t),H.push (jv H.n 1 ws),?_,hk,I2,S2,?_,False.elim⟩
  .unfold oH;rw[hs,hd];simp only[he];rfl
  .simp only[RV,RD];by_cases h0:RW t=0
   .have:t=[]:=Zn h0;subst this;exact .inl ⟨rfl,rfl,.inr ⟨H.n,0,0,rfl,_,N.get,by simp[jv]⟩⟩
   .refine .inr ⟨H.n,0,t.length,ws,1,rfl,aa,Z8 _,Nat.one_pos,ac,.inr rfl,?_,aaK t,_,N.get,.inr rfl⟩;rw[oY N.get rfl (by show 0+RW (t.map _)<=RW ws;grind)]
    show Wf ((ws.drop 0).take (RW (t.map _)))=_
    grind[Zx]
 trivial
theorem ajw{P:pG}(I:Inv φ F G H h){rid:Option Nat}(U:tC G H rid){t e:tI}{s len:Nat}{z:List D}(hu:P.underlying t=Wf (.slice e))
  {zv:vl} (hn:cn P e=Wf zv.cells.size) (hz:fX P e=Wf zv) (DP:plain zv=Th) (hzz:zv.cells.toList.map dL=z) (Is:∀c∈zv.cells.toList,iH c) {ps:List (Nat×V)} {qs:Array (Nat×vl)} (hp:nX φ F H h ps qs.toList)
  {k:V->Hp->Prop} (hk:kx s len z ps h k):bN False φ F G H h k (rG P H rid t len qs):=by
 unfold kx at hk;split at hk
 .rename_i vs hvs;split at hk
  .rename_i hc;split at hk
   .rename_i xs h1 hx;obtain⟨F1,r,H',ws,S1,r1,Rg,N,hb⟩:=UV I U hu hn hz DP hzz Is hp hvs hc hx;rw[hb];obtain⟨e0,b0,hs,hk⟩:=pf hk;obtain⟨I2,S2,_,hv⟩:=GX S1.1 hs (ex:=true) (n:=RW z) r1 N rfl rfl rfl (λe=>by cases e) hc.1;exact⟨_,_,_,_,.slice (Wf ⟨r,0,Vc⟩) len len,H',rfl,hk,I2,S1.2.trans S2,hv 0 len len _ rfl,False.elim⟩
   trivial
  trivial
 trivial
theorem ajv{P:pG}(I:Inv φ F G H h){rid:Option Nat}(U:tC G H rid){t e:tI}{s len:Nat}{z:List D}(hu:P.underlying t=Wf (.slice e))
  {zv:vl} (hn:cn P e=Wf zv.cells.size) (hz:fX P e=Wf zv) (DP:plain zv=Th) (hzz:zv.cells.toList.map dL=z) (Is:∀c∈zv.cells.toList,iH c) {ps:List (Nat×V)} {qs:Array (Nat×vl)} (hp:nX φ F H h ps qs.toList)
  {k:V->Hp->Prop} (hk:qh s len z ps h k):bN False φ F G H h k (rG P H rid t len qs):=by
 unfold qh at hk;split at hk
 .rename_i vs hvs;split at hk
  .rename_i hc;obtain⟨ws,hr,hb⟩:=UW hu hn hz DP hzz Is hp hvs hc.1.1 hc.1.2 rid;obtain⟨r,H',hm,N⟩:=G7 I U ws;rw[hb,hm];obtain⟨e0,b0,hs,hk⟩:=pf hk;obtain⟨I2,S2,hv⟩:=LL I hs hr N rfl rfl (.inl rfl) len;exact⟨_,_,_,_,.slice (Wf ⟨r,0,Vc⟩) len len,H',rfl,hk,I2,S2,hv,False.elim⟩
  .trivial
 .trivial
theorem aiW{P:pG}(I:Inv φ F G H h){rid:Option Nat}(U:tC G H rid){t e:tI}{s Nd:Nat}{z:List D}(hu:P.underlying t=Wf (.slice e))
  {zv:vl} (hn:cn P e=Wf zv.cells.size) (hby:qu P e=Wf Nd) (hz:fX P e=Wf zv) (DP:plain zv=Th) (hzz:zv.cells.toList.map dL=z) (Is:∀c∈zv.cells.toList,iH c)
  {l c:V} {l' c':vl} (hl:RV φ F H h l l') (hc:RV φ F H h c c') {k:V->Hp->Prop} (hk:fS s Nd z h l c k):bN False φ F G H h k (yw P H rid t l' c'):=by
 unfold fS at hk;split at hk
 .rename_i k1 l k2 c;rw[ig]at hl hc;subst hl;subst hc;split at hk
  .rename_i hb;have hzl:RW z=zv.cells.size:=by rw[<-hzz];simp
   obtain⟨e0,b0,hs,hk⟩:=pf hk;obtain⟨r,H',hm,N⟩:=G7 I U (fj zv.cells.toList (c.toNat*zv.cells.size))
   have hr:bj F H (dI c.toNat z) (fj zv.cells.toList (c.toNat*zv.cells.size)):=by
    have:=Co (F:=F) (H:=H) Is c.toNat;rw[hzz]at this;simpa using this
   obtain⟨I2,S2,_,hv⟩:=GX I hs (ex:=true) (n:=RW z) hr N rfl rfl rfl (λe=>by cases e) hb.2.2.1;refine⟨_,_,_,_,.slice (Wf ⟨r,0,Vc⟩) l.toNat c.toNat,H',?_,hk,I2,S2,hv 0 _ _ _ rfl,False.elim⟩;simp only[yw,hu,hn,hz,hby];rw[ip ⟨DP,trivial,aa,hb.1,hb.2.1,hb.2.2.2.1,hb.2.2.2.2⟩]
   grind
  trivial
 trivial
end
def qc:oP->Bool
 |.const v=>sL v
 |_=>Th
def oU:Ty->Bool
 |.o=>SM
 |_=>Th
def qQ(Y:eu)(nt:Nat)(o:oR):Bool:=
 (match o.dst with|some t=>decide (t<nt)|none=>Th)&&o.op.operands.all qc &&
 match o.op with
 | .alloc t=>oU (Y.ty t).k&&match(Y.ty t).k with
  |.ar _ e=>oU (Y.ty e).k&&decide (0<(Y.ty e).sz)
  |_=>Th
 |.store t _ _=>oU (Y.ty t).k
 | .buildSlice t _ _|.makeSlice t _ _=>match(Y.ty t).k with
  |.sl e=>oU (Y.ty e).k
  |_=>Th
 | .build t _=>match(Y.ty t).k with
  |.ar _ e=>oU (Y.ty e).k
  |_=>Th
 | .fieldAddr t _ f=>match(Y.ty t).k with
  | .st fs=>match fs[f]? with
   |some (_,sz)=>decide (sz≠0)
   |none=>Th
  |_=>Th
 | .field t _ f=>match Y.X.P.underlying t with
  | some (.struct gs)=>match gs[f]? with
   | some fd=>match Y.X.P.underlying fd.type with
    |some (.struct _)|some (.array _ _)=>!(Nat.beq ((cn Y.X.P fd.type).getD 0) 1)
    |some _=>Nat.beq ((cn Y.X.P fd.type).getD 0) 1
    |none=>SM
   |none=>Th
  |_=>Th
 | .indexAddr t _ _|.slice t _ _ _ _=>match(Y.ty t).k with
  |.sl e|.ar _ e=>oU (Y.ty e).k
  |_=>Th
 | .index t _ _=>match(Y.ty t).k with
  | .ar _ e=>oU (Y.ty e).k&&(match Y.X.P.underlying e with
   |some (.struct _)|some (.array _ _)=>!(Nat.beq (Y.ty e).sz 1)
   |some _=>Nat.beq (Y.ty e).sz 1
   |none=>SM)
  |_=>Th
 | .convert s d _=>match(Y.ty s).k,(Y.ty d).k with
  | .sl e,.s=>match(Y.ty e).k with
   |.i .u8=>Th
   |_=>SM
  | .s,.sl e=>match(Y.ty e).k with
   |.i .u8=>Th
   |_=>SM
  |_,_=>Th
 | .call c=>match c.callee with
  | .builtin .append=>(match c.argTypes[0]?,c.argTypes[1]? with
   | some t,Wf u=>(match(Y.ty t).k with
     |.sl e=>oU (Y.ty e).k&&decide (0<(Y.ty e).sz)&&decide (0<(Y.ty e).bytes)
     |_=>Th)
   |_,_=>SM)&&decide (c.args.size=2)
  |.builtin .copy=>decide (c.args.size=2)&&decide (0<c.argTypes.size)
  |.builtin .len|.builtin .clear|.builtin .cap=>decide (c.args.size=1)&&decide (0<c.argTypes.size)
  |_=>Th
 |_=>Th
structure tB(Y:eu):Prop where
 ty:∀t,zx Y.X.P t (Y.ty t)
 seq:∀gf cs xs,Y.seq gf cs=Wf xs->(∀z∈xs,∀v∈z,iH v)∧∀(φ:ax)(F:Nat->Prop)(H:AH)(h:Hp) lb,aK φ F H h cs lb->Y.X.seq gf lb H=Wf xs∧∀F' H',gK F F' H H'->Y.X.seqK gf lb H'=Y.X.seqK gf lb H
def lJ(Y:eu)(F:Nat->Prop)(H:AH):Prop:=∀g cs,Y.glob g=Wf cs->Y.X.glob g=Th∧F g∧(∃x,H.get g=Wf x∧x.wr=SM∧eH x.cells=Th)∧∃vs,cX H g 0 (RW cs)=Wf vs∧bj F H cs vs
theorem lJ.mono{Y:eu}{F F':Nat->Prop}{H H':AH}(hl:gK F F' H H')(g:lJ Y F H):lJ Y F' H':=λi cs h=>by
 obtain⟨h1,h2,h5,vs,h3,h4⟩:=g i cs h;exact⟨h1,hl.fm i h2,by rw[hl.keep i h2];exact h5,vs,by grind[x9,gK.keep],bj.mono hl _ _ h4⟩
def dF(φ:ax)(F:Nat->Prop)(H:AH)(h:Hp)(RK:Env)(a:au):Prop:=∀t,RV φ F H h (lk RK t) (d6 a t)
theorem dF.mono{φ φ':ax}{F F':Nat->Prop}{H H':AH}{h h':Hp}(hl:gK F F' H H')(hs:fw φ h φ' h'){RK:Env}{a:au}(e:dF φ F H h RK a):dF φ' F' H' h' RK a:=
 λt=>RV.mono hl hs _ _ (e t)
theorem WP(a:au)(d t:Nat)(v:vl)(hd:d<RW a):d6 (a.set d v) t=if t=d then v else d6 a t:=by
 rw[qm,qm,Z6,Z6];by_cases ht:t=d
 .grind
 .rw[List.getElem?_set_ne aa,iN ht]
theorem Bj(t d:Nat)(v:V)(RK:Env):lk ((d,v)::RK) t=if t=d then v else lk RK t:=by
 simp[lk];cases h:Nat.beq d t with
 |true=>rw[ip (Zk h).symm]
 |false=>rw[iN (λe=>by simp_all)]
theorem dF.put{φ:ax}{F:Nat->Prop}{H:AH}{h:Hp}(e:dF φ F H h RK a)(hd:∀t,dst=Wf t->t<RW a)(hv:RV φ F H h v w):
  dF φ F H h (Gn RK dst v) (dQ a dst w):=by
 cases dst with
 |none=>exact e
 | some d=>
  intro t
  show RV φ F H h (lk ((d,v)::RK) t) (d6 (a.set d w) t)
  rw[Bj,WP a d t w (hd d rfl)];split
  .exact hv
  .exact e t
theorem He:∀(RK:Env)(t:Nat)(k:V->Prop),Bl RK t k=k (lk RK t)
 |[],_,_=>rfl
 | (i,v)::l,t,k=>by
  simp only[Bl,lk];split
  .rfl
  .exact He l t k
theorem Nn(Y:eu)(RK:Env)(x:oP)(k:V->Prop):D9 Y RK x k=k (ev Y RK x):=by cases x<;>simp[D9,ev,He]
theorem Nl(Y:eu)(RK:Env):∀(l:List oP)(k:List V->Prop),D8 Y RK l k=k (l.map (ev Y RK))
 |[],_=>rfl
 |x::l,k=>by simp[D8,Nn,Nl Y RK l,Zv]
section
variable{Y:eu}{φ:ax}{F G:Nat->Prop}{H:AH}{h:Hp}
theorem dE(g:lJ Y F H)(e:dF φ F H h RK a){x:oP}(hx:qc x=Th):RV φ F H h (ev Y RK x) (Am.ev Y.X a x):=by
 cases x with
 |tmp t=>exact e t
 |const v=>exact UR hx
 | global i=>
  simp[ev,Am.ev];split
  .rename_i cs hcs;obtain⟨h1,h2,_,vs,h3,h4⟩:=g i cs hcs
   grind[RV]
  trivial
 |func f=>simp[ev,Am.ev,RV,aK]
theorem yY(g:lJ Y F H){RK:Env}{a:au}(e:dF φ F H h RK a):∀{l:List oP},(∀x∈l,qc x=Th)->aK φ F H h (l.map (ev Y RK)) (l.map (Am.ev Y.X a))
 |[],_=>by rfl
 | x::l,hl=>by
  simp only[Zv,aK];exact⟨_,_,rfl,dE g e (hl x ac),yY g e λy hy=>hl y ae⟩
theorem Lh(g:lJ Y F H){RK:Env}{a:au}(e:dF φ F H h RK a):∀{l:List (Nat×oP)},(∀x∈l,qc x.2=Th) ->
  nX φ F H h (l.map λp=>(p.1,ev Y RK p.2)) (l.map λp=>(p.1,Am.ev Y.X a p.2))
 |[],_=>by rfl
 | x::l,hl=>by
  simp only[Zv,nX];exact⟨_,_,rfl,dE g e (hl x ac),Lh g e λy hy=>hl y ae⟩
def Cl(P:pG)(φ:ax)(F G:Nat->Prop)(H:AH)(h:Hp)(o:Op)(rid:Option Nat):Prop:=
 match o,rid with
 |.alloc t,Wf r=>ED φ F G H h (Wf r)∧∃z,fX P t=Wf z∧H.get r=Wf (fresh r z.cells.toList)
 |_,rid=>tC G H rid
theorem bN.weak{U:Prop}{k:V->Hp->Prop}{r:Option (vl×AH)}(p:bN False φ F G H h k r)(hU:¬U):bN U φ F G H h k r:=by grind
theorem aaN(g:lJ Y F H)(e:dF φ F H h RK a){x:Option oP}(hx:∀y,x=Wf y->qc y=Th):rN φ F H h (x.map (ev Y RK)) (x.map (Am.ev Y.X a)):=by
 cases x with
 |none=>exact⟨λv hv=>(by cases hv),λ_=>rfl⟩
 |some y=>exact⟨λv hv=>(by cases hv;simp_all[dE]),λhv=>(by cases hv)⟩
theorem nj(Y:eu)(hY:tB Y){t:tI}(ht:oU (Y.ty t).k=Th):∃z,cn Y.X.P t=Wf z.cells.size∧fX Y.X.P t=Wf z∧plain z=Th∧z.cells.toList.map dL=(Y.ty t).z∧z.cells.size=(Y.ty t).sz∧(∀c∈z.cells.toList,iH c)∧qu Y.X.P t=Wf (Y.ty t).bytes∧cn Y.X.P t=Wf (Y.ty t).sz:=by
 have MT:(Y.ty t).k≠.o:=by intro e;rw[e]at ht;cases ht
 have T:=hY.ty t
 grind[zx.zero,zx.sz,zx.bytes]
theorem aqf{P:pG}(I:Inv φ F G H h){dr:Bool}{s n Nd:Nat}(hn:0<n){z:List D}{zv:vl}(hzz:zv.cells.toList.map dL=z)(Is:∀c∈zv.cells.toList,iH c)(hsz:zv.cells.size=n)
  {x y:V} {q:V->Hp->Prop} (hq:qw dr s n Nd z x y h q) {x' y':vl} (hx:RV φ F H h x x') (hy:RV φ F H h y y') :
  ∃ki k,y'=.int ki k∧0<=k∧k*Nd<=140737488355328∧bN (dr=Th) φ F G H h q (fh P H n Nd x' k.toNat (fj zv.cells.toList (k.toNat*n))):=by
 unfold qw at hq;split at hq
 .rename_i ki k;rw[ig]at hy;split at hq
  .rename_i hb;refine⟨ki,k,hy,hb.1,hb.2,OO I hn hq hx ?_⟩;have:=Co (F:=F) (H:=H) Is k.toNat
   grind
  trivial
 trivial
theorem ah7(hY:tB Y)(g:lJ Y F H)(I:Inv φ F G H h){C:CC}{dr:Bool}{LT:Act}{o:oR}{nt:Nat}(ho:qQ Y nt o=Th){RK:Env}{a:au}(e:dF φ F H h RK a)
  {rid:Option Nat} (R:Cl Y.X.P φ F G H h o.op rid) {k:V->Hp->Prop} (hk:yd Y C dr LT o RK h k) (hcall:∀c,o.op=.call c->py c.callee=Th) :
  bN (dr=Th∧lh o.op=Th) φ F G H h k (du Y.X rid H a o):=by
 obtain⟨dst,op,ty,pos,aft,gu⟩:=o;simp only[qQ,Z7]at ho;obtain⟨⟨hdst,hopd⟩,ho⟩:=ho
 have hx:∀x∈op.operands.toList,qc x=Th:=λx hx=>by
  rw[<-Array.all_toList,Zz]at hopd
  grind
 cases op<;>simp only[yd,Nn,Nl]at hk<;>(try exact hk.elim)<;>(try dsimp only at ho)<;>simp only[du]
 case move x=>exact bN.pure I hk (dE g e (hx x dp))
 case assign x=>exact bN.pure I hk (dE g e (hx x dp))
 case pick c x y=>
  refine bN.bnd I hk λv hv=>?_
  obtain⟨t,hc,hr⟩:=ahM hv (dE g e (hx c dp)) (dE g e (hx x dp)) (dE g e (hx y dp))
  grind
 case alloc t=>
  split at hk
  .rename_i s;rw[Z7]at ho;obtain⟨ht,ho⟩:=ho;obtain⟨z,hsz,hz,DP,hzz,hsz2,Is,hby,_⟩:=nj Y hY ht;rw[hz];simp[DP,iT];have hzr:bj F H (Y.ty t).z z.cells.toList:=by rw[<-hzz];exact yy Is
   have fin:∀r H',dS φ F G h H H' r (fresh r z.cells.toList)->bN (dr=Th∧lh (Op.alloc t)=Th) φ F G H h k (Wf (.pointer (Wf ⟨r,0,Vc⟩),H')):=by
    intro r H' N;refine bN.weak ?_ (by simp[lh]);split at hk
    .rename_i n2 e2 hk2;rw[hk2]at ho;simp[Z7,dT]at ho;unfold mN at hk;obtain⟨e0,b0,hs,hk⟩:=pf hk;obtain⟨I2,S2,hv,_⟩:=GX I hs (ex:=true) (n:=(Y.ty e2).sz) hzr N rfl rfl rfl (λe=>by cases e) ho.2;exact⟨_,_,_,_,_,H',rfl,hk,I2,S2,hv 0 _ rfl,False.elim⟩
    .exact TP I hk (aK.ofD hzr) N rfl rfl rfl
   cases rid with
   |none=>exact fin H.n _ (dS.push I rfl rfl)
   | some r=>
    obtain⟨R1,z',hz',hg⟩:=R;rw[hz]at hz';cases hz';exact fin r H (dS.laid I R1 hg rfl rfl)
  trivial
 case box t x=>
  split at hk
  .rename_i s;unfold cD at hk;split at hk
   .rename_i cs hcs;obtain⟨r,H',hm,N⟩:=G7 I R ((Am.ev Y.X a x).cells.toList);rw[hm];exact bN.weak (TP I hk (Ol hcs (dE g e (hx x dp))) N rfl rfl rfl) (by simp[lh])
   trivial
  trivial
 case build t ps=>
  have hps:nX φ F H h (ps.toList.map λp=>(p.1,ev Y RK p.2)) (ps.map λ(i,x)=>(i,Am.ev Y.X a x)).toList:=by
   rw[Array.toList_map];exact Lh g e λp hp=>hx p.2 (by grind[Op.operands])
  have T:=hY.ty t;split at hk
  .rename_i fs hfs;obtain⟨z,hsz,hz,DP,hzz,_,Is,_,_⟩:=nj Y hY (t:=t) (by rw[hfs];rfl)
   grind[zx.kind,bN.bnd,aps]
  .rename_i n2 e2 hfs;obtain⟨z,hsz,hz,DP,hzz,_,Is,_,_⟩:=nj Y hY (t:=t) (by rw[hfs];rfl)
   grind[zx.kind,nj,bN.bnd,apu]
  trivial
 case buildSlice t len ps=>
  have hps:nX φ F H h (ps.toList.map λp=>(p.1,ev Y RK p.2)) (ps.map λ(i,x)=>(i,Am.ev Y.X a x)).toList:=by
   rw[Array.toList_map];exact Lh g e λp hp=>hx p.2 (by grind[Op.operands])
  split at hk
  .rename_i e2 hfs;rw[hfs]at ho;have hkd:=(hY.ty t).kind;rw[hfs]at hkd;obtain⟨z,hsz,hz,DP,hzz,_,Is,_,_⟩:=nj Y hY ho;refine bN.weak ?_ (by simp[lh]);split at hk
   .exact ajw I R hkd hsz hz DP hzz Is hps hk
   .exact ajv I R hkd hsz hz DP hzz Is hps hk
   .exact ajx I R hkd hsz hz DP hzz Is hps hk
  trivial
 case load t x=>
  have T:=hY.ty t;have hr:=dE g e (hx x dp);split at hk
  .rename_i hag;refine bN.bnd I hk λv hv=>?_
   have hu:(∃gs,Y.X.P.underlying t=Wf (.struct gs))∨∃k e,Y.X.P.underlying t=Wf (.array k e):=by
    have hkd:=T.kind
    revert hkd hag
    cases(Y.ty t).k<;>simp only[sR]<;>intro hag hkd<;>try cases hag
    .grind
    .grind
   obtain⟨w,hw,hr⟩:=UE I hu (T.sz (by intro e;rw[e]at hag;cases hag)) hv hr
   grind
  .rename_i hag;refine bN.bnd I hk λv hv=>?_
   have hu:∃d,Y.X.P.underlying t=Wf d∧(∀gs,d≠.struct gs)∧∀n e,d≠.array n e:=by
    have hkd:=T.kind
    revert hkd hag
    cases(Y.ty t).k<;>simp only[sR]<;>intro hag hkd<;>(try cases hag)
    all_goals first
     |exact⟨_,hkd,λ_=>by simp,λ_ _=>by simp⟩
     |(obtain⟨_,hkd⟩:=hkd;exact⟨_,hkd,λ_=>by simp,λ_ _=>by simp⟩)
     |(obtain⟨_,_,_,hkd⟩:=hkd;exact⟨_,hkd,λ_=>by simp,λ_ _=>by simp⟩)
   grind[UF]
  trivial
 case store t x y=>
  have MT:(Y.ty t).k≠.o:=by intro e;rw[e]at ho;cases ho
  exact bN.weak (aea I ((hY.ty t).sz MT) hk (dE g e (hx x dp)) (dE g e (hx y dp))) (by simp[lh])
 case nilCheck x=>
  refine bN.bnd I hk λv hv=>?_
  obtain⟨p,hp,hr⟩:=aix hv (dE g e (hx x dp))
  grind
 case binOp op t x y u=>
  have T:=(hY.ty t).kind;have rx:=dE g e (hx x dp);have ry:=dE g e (hx y dp);split at hk
  .refine bN.bnd I hk λv hv=>?_
   obtain⟨w,hw,hr⟩:=apB (P:=Y.X.P) (t:=t) (ox:=x) (oy:=y) hv rx ry
   grind
  .rename_i hb;rw[hb]at T;refine bN.bnd I hk λv hv=>?_
   obtain⟨w,hw,hr⟩:=apE (ox:=x) (oy:=y) T hv rx ry
   grind
  .refine bN.bnd I hk λv hv=>?_
   obtain⟨w,hw,hr⟩:=apy (P:=Y.X.P) (t:=t) (ox:=x) (oy:=y) hv rx ry
   grind
  .rename_i e2 hs;rw[hs]at T;obtain⟨v,w,hkv,hw,hr⟩:=aiv I (ox:=x) (oy:=y) T hk rx ry
   grind[bN.pure]
  .rename_i hs;rw[hs]at T;split at hk
   .rename_i cv;refine bN.bnd I hk λv hv=>?_
    obtain⟨w,hw,hr⟩:=apD (ox:=x) (cv:=cv) T hv rx ry
    grind
   trivial
  .split at hk
   .rename_i he;refine bN.bnd I hk λv hv=>?_
    obtain⟨w,hw,hr⟩:=apG (P:=Y.X.P) (t:=t) (ox:=x) (oy:=y) ((hY.ty t).eq he) hv rx ry
    grind
   trivial
  trivial
 case unOp op t x=>
  refine bN.bnd I hk λv hv=>?_
  obtain⟨h1,w,hw,hr⟩:=acy (P:=Y.X.P) hv (dE g e (hx x dp))
  grind
 case convert s d x=>
  have Ts:=(hY.ty s).kind;have Td:=(hY.ty d).kind;have rx:=dE g e (hx x dp);split at hk
  .grind[bN.bnd,aop]
  .grind[bN.bnd,aoo]
  .rename_i el e1 e2;rw[e1]at Ts;rw[e2]at Td;rw[e1,e2]at ho;refine bN.bnd I hk λv hv=>?_
   have he:Y.X.P.underlying el=Wf (.int .u8):=by
    have T3:=(hY.ty el).kind;dsimp only at ho;generalize(Y.ty el).k=q at ho T3;cases q with
    |i k=>cases k<;>first|exact T3|cases ho
    |_=>cases ho
   grind[aom]
  .rename_i el e1 e2;rw[e1]at Ts;rw[e2]at Td;rw[e1,e2]at ho
   have he:Y.X.P.underlying el=Wf (.int .u8):=by
    have T3:=(hY.ty el).kind;dsimp only at ho;generalize(Y.ty el).k=q at ho T3;cases q with
    |i k=>cases k<;>first|exact T3|cases ho
    |_=>cases ho
   exact bN.weak (aoq I Ts Td he hk rx) (by simp[lh])
  trivial
 case makeFunc f x y=>
  cases f<;>simp[yd,Nn,Nl]at hk<;>first|exact hk.elim|skip
  refine bN.pure I hk ?_;simp only[RV];refine⟨x.toList.map (Am.ev Y.X a),y.toList.map (Am.ev Y.X a),by simp[<-Array.toList_map],yY g e λz hz=>hx z (by simp[Op.operands,hz]),yY g e λz hz=>hx z (by simp[Op.operands,hz])⟩
 case makeSlice t l c=>
  split at hk
  .rename_i e2 s hfs;rw[hfs]at ho;have hkd:=(hY.ty t).kind;rw[hfs]at hkd;obtain⟨z,hsz,hz,DP,hzz,_,Is,hby,_⟩:=nj Y hY ho;exact bN.weak (aiW I R hkd hsz hby hz DP hzz Is (dE g e (hx l dp)) (dE g e (hx c dp)) hk) (by simp[lh])
  trivial
 case slice t x lo hi mx=>
  have T:=(hY.ty t).kind;have rx:=dE g e (hx x dp);have rl:=aaN g e (x:=lo) λy hy=>hx y (by grind[Op.operands])
  have rh:=aaN g e (x:=hi) λy hy=>hx y (by grind[Op.operands])
  split at hk
  .grind[bN.bnd,afg]
  .rename_i e2 hfs;rw[hfs]at T ho;obtain⟨_,_,_,_,_,_,_,_,hsz⟩:=nj Y hY ho;split at hk
   .grind[bN.bnd,aff]
   .split at hk
    .refine bN.bnd I hk λv hv=>?_
     obtain⟨w,hw,hr⟩:=afd (k:=.i64) T hsz hv rx
     grind[Am.ev]
    trivial
   .rename_i mx hmx;refine bN.bnd I hk λv hv=>?_
    obtain⟨w,hw,hr⟩:=afe I T hsz hv rx rl rh (dE g e (hx mx dp))
    grind
  .grind[nj,bN.bnd,afh]
  trivial
 case fieldAddr t x f=>
  have T:=(hY.ty t).kind;split at hk
  .rename_i fs hfs;rw[hfs]at T ho;obtain⟨gs,hu,hg⟩:=T;split at hk
   .rename_i off sz hf;dsimp only at ho;rw[hf]at ho;refine bN.bnd I hk λv hv=>?_
    obtain⟨w,hw,hr⟩:=amx hu hg hf ae hv (dE g e (hx x dp))
    grind
   trivial
  trivial
 case field t x f=>
  have T:=(hY.ty t).kind;split at hk
  .rename_i fs hfs;rw[hfs]at T;obtain⟨gs,hu,hg⟩:=T;split at hk
   .rename_i off sz hf;refine bN.bnd I hk λv hv=>?_
    obtain⟨fd,hfd,_,hsz⟩:=Nh hg hf
    obtain ⟨w,hw,hr⟩:=amq hu hg hf (λfd2 hfd2=>by
     rw[hfd]at hfd2;cases hfd2;simp[hu,hfd,hsz,Option.getD_some]at ho;split at ho
     .grind
     .grind
     .rename_i d h1 h2 hd;rw[hd];cases d<;>first|exact ho|exact absurd rfl (h1 _)|grind|exact absurd hd (h1 _)|exact absurd hd (h2 _ _)
     trivial) hv (dE g e (hx x dp))
    grind
   trivial
  trivial
 case indexAddr t x i=>
  have T:=(hY.ty t).kind;have rx:=dE g e (hx x dp);have ri:=dE g e (hx i dp)
  grind[nj,bN.bnd,akD,akH]
 case index t x i=>
  have T:=(hY.ty t).kind;split at hk
  .rename_i hfs;rw[hfs]at T;refine bN.bnd I hk λv hv=>?_
   obtain⟨w,hw,hr⟩:=akG T hv (dE g e (hx x dp)) (dE g e (hx i dp))
   grind
  .rename_i len el hfs;rw[hfs]at T ho;dsimp only at ho;rw[Z7]at ho;obtain⟨_,_,_,_,_,_,_,_,hsz⟩:=nj Y hY ho.1;refine bN.bnd I hk λv hv=>?_
   obtain ⟨w,hw,hr⟩:=akI T hsz (by
    have h2:=ho.2;split at h2
    .grind
    .grind
    .rename_i d h1 h2 hd;rw[hd];cases d<;>first|grind|exact absurd rfl (h1 _)|exact absurd hd (h1 _)|exact absurd hd (h2 _ _)
    trivial) hv (dE g e (hx x dp)) (dE g e (hx i dp))
   grind
  trivial
 case extract x i=>
  unfold ext at hk;split at hk
  .rename_i vs hvs;refine bN.bnd I hk λv hv=>?_
   obtain⟨ws,w,hw,hi,hr⟩:=amA hvs hv (dE g e (hx x dp))
   grind
  trivial
 case call c=>
  have hb:=hcall c rfl;obtain⟨bp,args,ats⟩:=c;cases bp with
  |value f=>trivial
  |invoke r m=>trivial
  | builtin b=>
   cases b<;>dsimp only at hk ho ⊢ <;>(try exact hk.elim)
   case len=>
    simp[Z7,dT]at ho;obtain⟨h1,h2⟩:=ho
    obtain ⟨x,rfl⟩:∃x,args = #[x]:=by
     obtain⟨l⟩:=args
     match l,h1 with
     |[x],_=>simp
    have rx:=dE g e (hx x (by simp[Op.operands,Call.operands]));obtain⟨t,ht⟩:∃t,ats[0]?=Wf t:=⟨ats[0],ac⟩;have hgd:ats.getD 0 0=t:=by rw[Za,ht];rfl
    have hm:(#[x].map (Am.ev Y.X a)).toList=[Am.ev Y.X a x]:=ac;rw[hm];have T:=(hY.ty t).kind;rw[hgd]at hk;have hA:∀d,Y.X.P.underlying t=Wf d->(ats[0]?).bind Y.X.P.underlying=Wf d:=λd hd=>by grind
    split at hk
    .rename_i hfs;rw[hfs]at T;refine bN.weak (bN.bnd I hk λv hv=>?_) (by simp[lh]);obtain⟨s,hs,hr⟩:=ajE hv rx
     simp_all[fM]
    .rename_i e2 hfs;rw[hfs]at T;refine bN.weak (bN.bnd I hk λv hv=>?_) (by simp[lh]);obtain⟨b,n,c,hs,hr⟩:=ajC hv rx
     simp_all[fM]
    .rename_i n e2 hfs;rw[hfs]at T
     have:fM Y.X.P H .len ats ty [Am.ev Y.X a x]=Wf (.int .i64 n,H):=by
      simp[fM,hA _ T]
     rw[this];exact bN.pure I hk (ig.2 rfl)
    trivial
   case cap=>
    simp[Z7,dT]at ho;obtain⟨h1,h2⟩:=ho
    obtain ⟨x,rfl⟩:∃x,args = #[x]:=by
     obtain⟨l⟩:=args
     match l,h1 with
     |[x],_=>simp
    have rx:=dE g e (hx x (by simp[Op.operands,Call.operands]));obtain⟨t,ht⟩:∃t,ats[0]?=Wf t:=⟨ats[0],ac⟩;have hgd:ats.getD 0 0=t:=by rw[Za,ht];rfl
    have hm:(#[x].map (Am.ev Y.X a)).toList=[Am.ev Y.X a x]:=ac;rw[hm];have T:=(hY.ty t).kind;rw[hgd]at hk;have hA:∀d,Y.X.P.underlying t=Wf d->(ats[0]?).bind Y.X.P.underlying=Wf d:=λd hd=>by grind
    split at hk
    .rename_i e2 hfs;rw[hfs]at T;refine bN.weak (bN.bnd I hk λv hv=>?_) (by simp[lh]);obtain⟨hs,hr⟩:=ao0 hv rx;refine⟨.int .i64 0,?_,hr⟩;simp only[fM,hA _ T];rw[show Am.ev Y.X a x=.slice Vc 0 0 from hs];rfl
    trivial
   case clear=>
    simp[Z7,dT]at ho;obtain⟨h1,h2⟩:=ho
    obtain ⟨x,rfl⟩:∃x,args = #[x]:=by
     obtain⟨l⟩:=args
     match l,h1 with
     |[x],_=>simp
    have rx:=dE g e (hx x (by simp[Op.operands,Call.operands]));obtain⟨t,ht⟩:∃t,ats[0]?=Wf t:=⟨ats[0],ac⟩;have hgd:ats.getD 0 0=t:=by rw[Za,ht];rfl
    have hm:(#[x].map (Am.ev Y.X a)).toList=[Am.ev Y.X a x]:=ac;rw[hm];have T:=(hY.ty t).kind;rw[hgd]at hk;split at hk
    .rename_i e2 hfs;rw[hfs]at T;split at hk
     .trivial
     .rename_i hag
      have MT:oU (Y.ty e2).k=Th:=by
       revert hag
       cases(Y.ty e2).k<;>simp[sR,oU]
      obtain⟨z,hsz,hz,DP,hzz,_,Is,_,_⟩:=nj Y hY MT;refine bN.weak (aoK I (t:=t) ae ?_ hz DP hzz Is hk rx) ac;omega
    trivial
   case copy=>
    simp[Z7,dT]at ho;obtain⟨h1,h2⟩:=ho
    obtain ⟨x,y,rfl⟩:∃x y,args = #[x,y]:=by
     obtain⟨l⟩:=args
     match l,h1 with
     |[x,y],_=>simp
    have rx:=dE g e (hx x (by simp[Op.operands,Call.operands]));have ry:=dE g e (hx y (by simp[Op.operands,Call.operands]));obtain⟨t,ht⟩:∃t,ats[0]?=Wf t:=⟨ats[0],ac⟩;have hgd:ats.getD 0 0=t:=by rw[Za,ht];rfl
    have hm:(#[x,y].map (Am.ev Y.X a)).toList=[Am.ev Y.X a x,Am.ev Y.X a y]:=ac;rw[hm];have T:=(hY.ty t).kind;rw[hgd]at hk;split at hk
    .rename_i e2 hfs;rw[hfs]at T;split at hk
     .trivial
     .rename_i hag
      have MT:oU (Y.ty e2).k=Th:=by
       revert hag
       cases(Y.ty e2).k<;>simp[sR,oU]
      obtain⟨z,hsz,hz,DP,hzz,_,Is,_,_⟩:=nj Y hY MT;exact bN.weak (aou I (e:=e2) ae aa hk rx ry) ac
    trivial
   case max=>
    refine bN.weak (bN.bnd I hk λv hv=>?_) (by simp[lh]);have:=TZ (P:=Y.X.P) (ts:=ats) (t:=ty) Th hv (yY g e λz hz=>hx z (by simp[Op.operands,Call.operands,hz]))
    simp_all
   case min=>
    refine bN.weak (bN.bnd I hk λv hv=>?_) (by simp[lh]);have:=TZ (P:=Y.X.P) (ts:=ats) (t:=ty) SM hv (yY g e λz hz=>hx z (by simp[Op.operands,Call.operands,hz]))
    simp_all
   case append=>
    simp[Z7,dT]at ho;obtain⟨h1,h2⟩:=ho
    obtain ⟨x,y,rfl⟩:∃x y,args = #[x,y]:=by
     obtain⟨l⟩:=args
     match l,h2 with
     |[x,y],_=>simp
    have rx:=dE g e (hx x (by simp[Op.operands,Call.operands]));have ry:=dE g e (hx y (by simp[Op.operands,Call.operands]));split at h1
    .rename_i t u ht hu;have hgd:ats.getD 0 0=t:=by rw[Za,ht];rfl
     have hgd1:ats.getD 1 0=u:=by rw[Za,hu];rfl
     rw[hgd,hgd1]at hk;split at hk
     .rename_i e2 s hfs;rw[hfs]at h1;simp[Z7,dT]at h1;have T:=(hY.ty t).kind;rw[hfs]at T;obtain⟨z,hsz,hz,DP,hzz,hz2,Is,hby,hsz2⟩:=nj Y hY h1.1.1;have n1:¬((Y.ty e2).sz=0∨(Y.ty e2).bytes=0∨z.cells.size≠(Y.ty e2).sz):=aa;have hm:(#[x,y].map (Am.ev Y.X a)).toList=[Am.ev Y.X a x,Am.ev Y.X a y]:=ac;split at hk
      case h_1=>
       split at hk
       case h_1=>trivial
       rename_i h4;obtain⟨ki,kk,hyv,hk0,hkb,hp⟩:=aqf (P:=Y.X.P) I h1.1.2 hzz Is hz2 hk rx ry
       have hd:∃i,Y.X.P.underlying u=Wf (.int i):=by
        have T3:=(hY.ty u).kind;generalize(Y.ty u).k=q at h4 T3;cases q with
        |i k=>grind
        |_=>exact absurd h4 (by simp[isInt])
       obtain⟨i,hd⟩:=hd
       have hA:fM Y.X.P H .append ats ty [Am.ev Y.X a x,Am.ev Y.X a y]=fh Y.X.P H (Y.ty e2).sz (Y.ty e2).bytes (Am.ev Y.X a x) kk.toNat (fj z.cells.toList (kk.toNat*(Y.ty e2).sz)):=by
        unfold fM;simp only[ht,hu,Option.bind_some,T,hd,hsz2,hby,hz,hyv,DP,hz2,hk0,hkb,true_and,iT,and_self];rw[iN aa]
       rw[hm];rw[hA];obtain⟨v,h',φ',F',w,H',q1,q2,q3,q4,q5,q6⟩:=hp;exact⟨v,h',φ',F',w,H',q1,q2,q3,q4,q5,λq=>q6 q.1⟩
      rename_i h3;obtain⟨k1,vs,hsrc,hp⟩:=aqi (P:=Y.X.P) I h1.1.2 hk rx ry
      have hd:∃d,Y.X.P.underlying u=Wf d∧∀k,d≠.int k:=by
       have T3:=(hY.ty u).kind;generalize(Y.ty u).k=q at h3 T3;cases q with
       |sl e3=>grind
       |s=>grind
       |_=>exact absurd h3 (by simp[HQ])
      obtain⟨d,hd,hdn⟩:=hd
      have hA:fM Y.X.P H .append ats ty [Am.ev Y.X a x,Am.ev Y.X a y]=fh Y.X.P H (Y.ty e2).sz (Y.ty e2).bytes (Am.ev Y.X a x) k1 vs:=by
       unfold fM;simp[ht,hu,Option.bind_some,T,hd,hsz2,hby,hz,n1,iF];cases d<;>first|exact absurd rfl (hdn _)|simp[hsrc]
      rw[hm];rw[hA];obtain⟨v,h',φ',F',w,H',q1,q2,q3,q4,q5,q6⟩:=hp;exact⟨v,h',φ',F',w,H',q1,q2,q3,q4,q5,λq=>q6 q.1⟩
     .rename_i e2 s hfs;rw[hfs]at h1;simp[Z7,dT]at h1;have T:=(hY.ty t).kind;rw[hfs]at T;obtain⟨z,hsz,hz,DP,hzz,hz2,Is,hby,hsz2⟩:=nj Y hY h1.1.1;have n1:¬((Y.ty e2).sz=0∨(Y.ty e2).bytes=0∨z.cells.size≠(Y.ty e2).sz):=aa;have hm:(#[x,y].map (Am.ev Y.X a)).toList=[Am.ev Y.X a x,Am.ev Y.X a y]:=ac;split at hk
      case h_1=>trivial
      rename_i h3;obtain⟨k1,vs,hsrc,hp⟩:=aqh (P:=Y.X.P) I hk rx ry
      have hd:∃d,Y.X.P.underlying u=Wf d∧∀k,d≠.int k:=by
       have T3:=(hY.ty u).kind;generalize(Y.ty u).k=q at h3 T3;cases q with
       |sl e3=>grind
       |s=>grind
       |_=>exact absurd h3 (by simp[HQ])
      obtain⟨d,hd,hdn⟩:=hd
      have hA:fM Y.X.P H .append ats ty [Am.ev Y.X a x,Am.ev Y.X a y]=fh Y.X.P H (Y.ty e2).sz (Y.ty e2).bytes (Am.ev Y.X a x) k1 vs:=by
       unfold fM;simp[ht,hu,Option.bind_some,T,hd,hsz2,hby,hz,n1,iF];cases d<;>first|exact absurd rfl (hdn _)|simp[hsrc]
      rw[hm];rw[hA];obtain⟨v,h',φ',F',w,H',q1,q2,q3,q4,q5,q6⟩:=hp;exact⟨v,h',φ',F',w,H',q1,q2,q3,q4,q5,λq=>q6 q.1⟩
     trivial
    trivial
end
def uU(cf cf':fW):Prop:=∀f a H r,cf f a H=Wf r->cf' f a H=Wf r
variable{X:dh}{cf cf':fW}
theorem amU(hl:uU cf cf'){H:AH}(h:iC X cf rid H a o=Wf r):iC X cf' rid H a o=Wf r:=by
 unfold iC at h ⊢;split at h
 .rename_i c hc;split
  .grind
  .rename_i hb;rw[iN hb]at h;cases hg:pF (Am.ev X a) c with
   |none=>grind
   |some q=>rw[hg]at h;exact hl _ _ _ _ h
 omega
theorem amP(hl:uU cf cf'){H:AH}(h:gF X cf RM RC i o a H=Wf r):gF X cf' RM RC i o a H=Wf r:=by
 have hs:∀{B:Nat}{q:vl×AH},jL X cf B H a o=Wf q->jL X cf' B H a o=Wf q:=λ{B q} h=>by
  unfold jL at h ⊢;split at h
  .split at h
   .split at h
    .rename_i hp;split at h
     .rename_i h1;rw[ip hp,hl _ _ _ _ h1];exact h
     .cases h
    .cases h
   .cases h
  .cases h
 have hc:∀{q:vl×AH},nL X cf RM RC i o a H=Wf q->nL X cf' RM RC i o a H=Wf q:=λ{q} h=>by
  unfold nL at h ⊢;split
  .rename_i hc;rw[ip hc]at h;exact hs h
  .rename_i hc;rw[iN hc]at h;exact amU hl h
 unfold gF at h ⊢;split at h
 .rename_i h1;rw[hc h1];exact h
 .cases h
theorem Qz(hl:uU cf cf'){H:AH}{r:au×AH}(h:dV X cf RM RC i o a H=Wf r):dV X cf' RM RC i o a H=Wf r:=by grind[dV,amP]
theorem KN(hl:uU cf cf'){RM:Array oR}{RC:Option Nat}:∀{l:List oR}{i:Nat}{a:au}{H:AH}{r:au×AH},jN X cf RM RC i l a H=Wf r->jN X cf' RM RC i l a H=Wf r
 |[],_,_,_,_,h=>h
 | o::l,i,a,H,r,h=>by
  unfold jN at h ⊢;cases hs:dV X cf RM RC i o a H with
  |none=>grind
  |some q=>rw[hs]at h;rw[Qz hl hs];exact KN hl h
theorem Sz(hl:uU cf cf'){H:AH}{r:au×AH}(h:pX X cf RM draw a H=Wf r):pX X cf' RM draw a H=Wf r:=by grind[pX,KN]
theorem K0{n m:Nat}(ih:∀{c:Code} {a:au} {H:AH} {r:eX×au×AH},cS X cf n c a H=Wf r->cS X cf' m c a H=Wf r){x y:Code}{ps:List Tmp}{a:au}{sq:AH->Prop} :
  ∀{l:List au}{H:AH}{r:eX×au×AH},jW (λa H=>cS X cf n x a H) (λa H=>cS X cf n y a H) sq ps a l H=Wf r->jW (λa H=>cS X cf' m x a H) (λa H=>cS X cf' m y a H) sq ps a l H=Wf r
 |[],H,r,h=>h
 | z::l,H,r,h=>by
  simp only[jW]at h ⊢;split at h
  case isFalse=>cases h
  rename_i hz;rw[ip hz];split at h
  case h_2=>cases h
  rename_i a1 H1 h1;rw[ih h1];simp only;split at h
  .rename_i a2 H2 h2;rw[ih h2];simp only;split at h
   case isFalse=>cases h
   rename_i hs;rw[ip hs];exact K0 ih h
  .rename_i e2 a2 H2 MT h2;rw[ih h2];cases e2<;>first|exact h|trivial
  .cases h
theorem oD(hl:uU cf cf'):∀{n m:Nat}{c:Code}{a:au}{H:AH}{r:eX×au×AH},n<=m->cS X cf n c a H=Wf r->cS X cf' m c a H=Wf r:=by
 intro n
 induction n with
 |zero=>intro m c a H r _ h;cases h
 | succ n ih=>
  intro m c a H r hm h;obtain⟨m,rfl⟩:∃k,m=k+1:=⟨m-1,aa⟩;have hm:n<=m:=aa;cases c<;>simp only[cS]at h ⊢ <;>try exact h
  case region id RM draw=>
   grind[Sz]
  case seq x y=>
   cases hx:cS X cf n x a H with
   |none=>grind
   | some q=>
    obtain⟨e,a1,H1⟩:=q;rw[hx]at h;rw[ih hm hx];cases e<;>first|exact ih hm h|exact h
  case cond c x y=>
   grind
  case block id c=>
   grind
  case loop c=>
   cases hx:cS X cf n c a H with
   |none=>grind
   | some q=>
    obtain⟨e,a1,H1⟩:=q;rw[hx]at h;rw[ih hm hx];cases e<;>first|exact ih hm h|exact h
  case scope c=>grind
  grind[K0]
theorem Si{X:dh}{cf cf':fW}(hl:uU cf cf'){n m:Nat}(hn:n<=m){x y:Code}{ps:List Tmp}{a:au}{sq:AH->Prop}{l:List au}{H:AH}{r:eX×au×AH}
  (h:jW (λa H=>cS X cf n x a H) (λa H=>cS X cf n y a H) sq ps a l H=Wf r):jW (λa H=>cS X cf' m x a H) (λa H=>cS X cf' m y a H) sq ps a l H=Wf r:=K0 (λh=>oD hl hn h) h
theorem uP(X:dh):∀n,uU (dR X n) (dR X (n+1))
 |0,_,_,_,_,h=>by cases h
 | n+1,f,args,H,r,h=>by
  unfold dR at h ⊢;split
  .grind
  .rename_i hv;rw[hv]at h;simp only at h;split
   .rename_i ha;rw[ip ha]at h;cases hf:X.P.funcs[f]? with
    |none=>grind
    | some fn=>
     rw[hf]at h;simp only at h ⊢;cases hb:fn.body with
     |none=>grind
     | some c=>
      rw[hb]at h;simp only at h ⊢;cases he:cS X (dR X n) n c (args++So (fn.ntmps-RW args) undef) H with
      |none=>grind
      | some q=>
       rw[he]at h;rw[oD (uP X n) (Nat.le_succ n) he];exact h
   grind
theorem tj(X:dh)(h:n<=m):uU (dR X n) (dR X m):=by
 induction h with
 |refl=>exact λ_ _ _ _ h=>h
 |step _ ih=>exact λf a H r hr=>uP X _ f a H r (ih f a H r hr)
def Cm(Y:eu)(g:fI)(ds:List V)(v:V):Prop:=
 ∀(F:Nat->Prop)(H:AH)(args:au),WF H->(∀c,F c->c<H.n∧∃x,H.get c=Wf x∧x.st=1)->lJ Y F H->(∀φ0 h0,aK φ0 F H h0 ds args) ->
 ∃ n w H' F',dR Y.X n g args H=Wf (w,H')∧H.n<=H'.n∧WF H'∧(∀c,c<H.n->H'.get c=H.get c)∧(∀c,F c->F' c)∧(∀c,F' c->F c∨H.n<=c) ∧
  (∀c,F' c->c<H'.n∧∃x,H'.get c=Wf x∧x.st=1) ∧
  (∀c x,H.n<=c->H'.get c=Wf x->x.st≠0->∀g y,g<H.n->H.get g=Wf y->y.st≠0->x.fam≠y.fam)∧(∀r,r<H.n->jf H r->jf H' r) ∧
  ∀φ0 h0,RV φ0 F' H' h0 v w
section
variable{Y:eu}{φ:ax}{F G:Nat->Prop}{H:AH}{h:Hp}
theorem Inv.call(I:Inv φ F G H h){H':AH}{F':Nat->Prop}(hn:H.n<=H'.n)(hw:WF H')(hk:∀c,c<H.n->H'.get c=H.get c)(hF:∀c,F c->F' c)(hN:∀c,F' c->F c∨H.n<=c)
  (ha:∀c,F' c->c<H'.n∧∃x,H'.get c=Wf x∧x.st=1) (hs:∀c x,H.n<=c->H'.get c=Wf x->x.st≠0->∀g y,g<H.n->H.get g=Wf y->y.st≠0->x.fam≠y.fam)
  (hq:∀r,r<H.n->jf H r->jf H' r):Inv φ F' G H' h∧Stp G φ F H h φ F' H' h:=by
 have kFG:∀c,F c∨G c->H'.get c=H.get c:=λc hc=>hk c (I.lt c hc)
 have Fm:gK F F' H H':=⟨hF,λc hc=>kFG c (.inl hc),λc x hx h0=>⟨x,by rw[hk c (AH.get_lt hx)];exact hx,h0⟩⟩
 have kO:∀i e k,h[i]?=Wf (e,k)->Own k->H'.get (φ.getD i 0)=H.get (φ.getD i 0):=λi e k hi ho=>by
  obtain⟨x,hx,_⟩:=I.own_get hi ho;exact hk _ (AH.get_lt hx)
 refine⟨⟨I.len,?_,?_,λc hc=>(ha c hc).2,?_,?_,?_,hw⟩,⟨hn,kFG,hF,?_,Fm.born,λr hr hk=>hq r (I.lt r (.inr hr)) hk,rfl,fw.refl φ h⟩⟩
 .intro i e k hi;by_cases ho:Own k
  .exact(I.blk i e k hi).mono Fm (fw.refl φ h) (kO i e k hi ho)
  .cases k with
   |none=>trivial
   |vars cs=>exact absurd trivial ho
   | data n cs ex fr=>
    cases fr with
    |false=>exact absurd rfl ho
    |true=>exact(I.blk i e _ hi).mono Fm (fw.refl φ h) (kFG _ (.inl (H9 I hi)))
 .rintro c (hc|hc)
  .exact(ha c hc).1
  .exact Z0 (I.lt c (.inr hc)) hn
 .intro i e k hi ho c hc;obtain⟨z,hz,hz1⟩:=I.own_get hi ho
  have old:F c∨G c->_:=λhc=>by
   obtain⟨p1,p2⟩:=I.priv i e k hi ho c hc;exact(⟨p1,λx y hx hy=>p2 x y (by rw[<-kFG c hc];exact hx) (by rw[<-kO i e k hi ho];exact hy)⟩:c≠φ.getD i 0∧∀x y,H'.get c=Wf x->H'.get (φ.getD i 0)=Wf y->x.st=1->x.fam≠y.fam)
  rcases hc with hc|hc
  .rcases hN c hc with hc|hc
   .exact old (.inl hc)
   .have:=AH.get_lt hz;refine⟨aa,λx y hx hy h1=>?_⟩;rw[kO i e k hi ho]at hy;exact hs c x hc hx aa _ y (AH.get_lt hy) hy (by rw[hz]at hy;cases hy;omega)
  .exact old (.inr hc)
 .intro i e k j e' k' hi ho hj ho' hij;obtain⟨p1,p2⟩:=I.inj i e k j e' k' hi ho hj ho' hij;exact⟨p1,λx y hx hy=>p2 x y (by rw[<-kO i e k hi ho];exact hx) (by rw[<-kO j e' k' hj ho'];exact hy)⟩
 .intro c x g y hx h0 hc hg hy hy0;rw[kFG g (.inr hg)]at hy;by_cases hcn:c<H.n
  .rw[hk c hcn]at hx;exact I.sep c x g y hx h0 hc hg hy hy0
  .exact hs c x aa hx h0 g y (AH.get_lt hy) hy hy0
 .intro c hc;rcases hN c hc with hc|hc
  .exact .inl hc
  .exact .inr λhg=>absurd (I.lt c (.inr hg)) aa
def cY(φ:ax)(F G:Nat->Prop)(H:AH)(h:Hp)(n:Nat)(cells:List D)(ex:Bool)(len cap:Nat)(w:vl):Prop:=
 ∃ c x,w=.slice (Wf ⟨c,0,Vc⟩) len cap∧H.get c=Wf x∧x.st=1∧x.wr=Th∧bj F H cells x.cells∧x.exact=ex∧(ex=SM->x.esz=n)∧0<n ∧
  (∀g,F g∨G g->g≠c∧∀y,H.get g=Wf y->y.st=1->y.fam≠x.fam)∧(∀i e b,h[i]?=Wf (e,b)->Own b->φ.getD i 0≠c∧∀y,H.get (φ.getD i 0)=Wf y->y.fam≠x.fam)
def Jm(φ:ax)(F G:Nat->Prop)(H:AH)(h:Hp)(cells:List D)(c:Nat):Prop:=
 ∃ x,H.get c=Wf x∧x.st=1∧x.wr=Th∧bj F H cells x.cells∧(x.exact=Th∨x.esz=1) ∧
  (∀g,F g∨G g->g≠c∧∀y,H.get g=Wf y->y.st=1->y.fam≠x.fam)∧(∀i e b,h[i]?=Wf (e,b)->Own b->φ.getD i 0≠c∧∀y,H.get (φ.getD i 0)=Wf y->y.fam≠x.fam)
def EE(φ:ax)(F G:Nat->Prop)(H:AH)(h:Hp)(v:V)(w:vl):Prop:=match v with
 |.new n cells ex len cap=>cY φ F G H h n cells ex len cap w
 |.cut n=>w=.slice Vc 0 0∨cY φ F G H h n [] Th 0 0 w
 |.tup [.new n cells ex len cap,.d y]=>∃w1 w2,w=.tuple ⟨[w1,w2]⟩∧cY φ F G H h n cells ex len cap w1∧RD F H y w2
 |.tup [.new n cells ex len cap]=>∃c,w=.pointer (Wf ⟨c,0,Vc⟩)∧Jm φ F G H h cells c
 |.tup [.tup [.new n cells ex len cap],.d y]=>∃c w2,w=.tuple ⟨[.pointer (Wf ⟨c,0,Vc⟩),w2]⟩∧Jm φ F G H h cells c∧RD F H y w2
 |v=>RV φ F H h v w
def EI(Y:eu)(g:fI)(args:List V)(h:Hp)(v:V)(h':Hp):Prop:=
 ∀(φ:ax)(F G:Nat->Prop)(H:AH)(ws:au),Inv φ F G H h->lJ Y F H->aK φ F H h args ws ->
 ∃n w H' φ' F',dR Y.X n g ws H=Wf (w,H')∧Inv φ' F' G H' h'∧Stp G φ F H h φ' F' H' h'∧EE φ' F' G H' h' v w
structure Cn(Y:eu)(C:CC):Prop where
 p:∀g ds v,C.p g ds v->Cm Y g ds v
 i:∀g args h v h',C.i g args h v h'->EI Y g args h v h'
theorem Inv.adoptB(I:Inv φ F G H h){s e0:Nat}{b0 b:Bk}(hs:h[s]?=Wf (e0,b0)){c:Nat}{x:bv}(hx:H.get c=Wf x)(hx1:x.st=1)
  (hb:gK F F H H->fw φ h (φ.set s c) (h.set s (e0+1,b))->RB (φ.set s c) F H (h.set s (e0+1,b)) c b) (hp:∀g,F g∨G g->g≠c∧∀y,H.get g=Wf y->y.st=1->y.fam≠x.fam) (ho:∀i e b,h[i]?=Wf (e,b)->Own b->φ.getD i 0≠c∧∀y,H.get (φ.getD i 0)=Wf y->y.fam≠x.fam) :
  Inv (φ.set s c) F G H (h.set s (e0+1,b))∧Stp G φ F H h (φ.set s c) F H (h.set s (e0+1,b)):=by
 have hsl:s<RW h:=gD hs;have hsφ:s<RW φ:=by rw[I.len];exact hsl
 have aH:∀i,(h.set s (e0+1,b))[i]?=if i=s then Wf (e0+1,b)else h[i]?:=λi=>uy hsl
 have Fm:gK F F H H:=⟨λ_ hc=>hc,λ_ _=>rfl,λc x hx h0=>⟨x,hx,h0⟩⟩
 have hslle:fw φ h (φ.set s c) (h.set s (e0+1,b)):=by
  intro i;by_cases hi:i=s
  .subst hi;have e1:ep h i=e0:=by simp[ep,hs]
   have e2:ep (h.set i (e0+1,b)) i=e0+1:=by simp[ep,hsl]
   exact⟨aa,λe=>by omega⟩
  .have e2:ep (h.set s (e0+1,b)) i=ep h i:=by unfold ep;rw[aH,iN hi]
   refine⟨aa,λ_ m hm=>⟨m,?_,Z8 _,λ_=>by rw[iP hsφ,iN hi]⟩⟩
   grind[aH]
 refine⟨⟨by simp[I.len],?_,I.lt,I.fb,?_,?_,I.sep,I.wf⟩,⟨Z8 _,λ_ _=>rfl,λ_ hc=>hc,λ_ hc=>.inl hc,λc x hx h0=>⟨x,hx,h0⟩,λ_ _ hq=>hq,ac,hslle⟩⟩
 .intro i e k hi;rw[aH]at hi;rw[iP hsφ];split at hi
  .rename_i DE;subst DE;cases hi;rw[ip rfl];exact hb Fm hslle
  grind[RB.mono,blk]
 .intro i e k hi hk g hg;rw[aH]at hi;rw[iP hsφ];split at hi
  .grind
  .rename_i DE;rw[iN DE];exact I.priv i e k hi hk g hg
 .intro i e k j e' k' hi hk hj hk' hij;rw[aH]at hi hj;rw[iP hsφ,iP hsφ];split at hi
  .grind
  .rename_i DE;rw[iN DE];split at hj
   .grind
   .rename_i hj';rw[iN hj'];exact I.inj i e k j e' k' hi hk hj hk' hij
theorem Inv.adopt(I:Inv φ F G H h){s e0 n:Nat}{b0:Bk}(hs:h[s]?=Wf (e0,b0)){cells:List D}{ex:Bool}{c:Nat}{x:bv}(hx:H.get c=Wf x)(hx1:x.st=1)(hwr:x.wr=Th)(hd:bj F H cells x.cells)(hex:x.exact=ex)
  (hez:ex=SM->x.esz=n) (hn:0<n) (hp:∀g,F g∨G g->g≠c∧∀y,H.get g=Wf y->y.st=1->y.fam≠x.fam) (ho:∀i e b,h[i]?=Wf (e,b)->Own b->φ.getD i 0≠c∧∀y,H.get (φ.getD i 0)=Wf y->y.fam≠x.fam) :
  Inv (φ.set s c) F G H (h.set s (e0+1,.data n cells ex SM))∧Stp G φ F H h (φ.set s c) F H (h.set s (e0+1,.data n cells ex SM)):=
 I.adoptB hs hx hx1 (λFm hsl=>⟨x,hx,hx1,bj.mono Fm _ _ hd,λ_=>hex,λe=>.inr (hez e),hn,λe=>(by cases e),λ_=>hwr⟩) hp ho
theorem Inv.adoptR(I:Inv φ F G H h)(hs:h[s]?=Wf (e0,b0)){c:Nat}(hr:Jm φ F G H h cells c):
  Inv (φ.set s c) F G H (h.set s (e0+1,.vars (cells.map .d)))∧Stp G φ F H h (φ.set s c) F H (h.set s (e0+1,.vars (cells.map .d))):=by obtain⟨x,hx,hx1,hwr,hd,hxe,hp,ho⟩:=hr;exact I.adoptB hs hx hx1 (λFm hsl=>⟨x,hx,hx1,hwr,hxe,aK.ofD (bj.mono Fm _ _ hd)⟩) hp ho
theorem ao9{D:rL}(hD:∀g args h v h',D g args h v h'->EI Y g args h v h')(g:lJ Y F H)(I:Inv φ F G H h){c:V}{args:List V}{s:Nat}{k:V->Hp->Prop}(hk:eQ D h c args s k){c':vl}{GS:au}
  (hc:RV φ F H h c c') (ha:aK φ F H h args GS):∃f x y,c'=.func (.func f) ⟨x⟩ ⟨y⟩∧∃n,bN False φ F G H h k (dR Y.X n f (x++GS++y) H):=by
 unfold eQ at hk;split at hk
 .rename_i f fs cs;simp[RV]at hc;obtain⟨x,y,rfl,hx,hy⟩:=hc;refine⟨f,x,y,rfl,?_⟩;obtain⟨v,h1,hv,hk⟩:=hk;obtain⟨n,w,H',φ',F',e,I',S',hr⟩:=hD f _ h v h1 hv φ F G H _ I g ((hx.append ha).append hy);refine⟨n,?_⟩;rw[e];split at hk
  .rename_i m cells ex len cap;obtain⟨e0,b0,hs,hk⟩:=pf hk;obtain⟨c,z,rfl,hz,hz1,hzw,hd,hex,hez,hm,hp,ho⟩:=hr;obtain⟨I2,S2⟩:=I'.adopt hs hz hz1 hzw hd hex hez hm hp ho;refine⟨_,_,_,_,_,H',rfl,hk,I2,S'.trans S2,?_,False.elim⟩;obtain⟨g1,g2⟩:=tO (b:=.data m cells ex SM) hs;simp only[RV];refine⟨⟨_,_,rfl⟩,aa,λq hq=>?_⟩;rw[g1]at hq;cases hq
   exact⟨Z8 _,λ_=>by rw[iP (by grind[Inv.len]),ip rfl]⟩
  .trivial
  .rename_i m cells ex len cap y0;obtain⟨e0,b0,hs,hk⟩:=pf hk;obtain⟨w1,w2,rfl,⟨c,z,rfl,hz,hz1,hzw,hd,hex,hez,hm,hp,ho⟩,hry⟩:=hr;obtain⟨I2,S2⟩:=I'.adopt hs hz hz1 hzw hd hex hez hm hp ho;refine⟨_,_,_,_,_,H',rfl,hk,I2,S'.trans S2,?_,False.elim⟩;obtain⟨g1,g2⟩:=tO (b:=.data m cells ex SM) hs;simp only[RV,aK];refine⟨_,rfl,_,_,rfl,⟨⟨_,_,rfl⟩,aa,λq hq=>?_⟩,_,_,rfl,hry,rfl⟩
   rw[g1]at hq;cases hq;exact⟨Z8 _,λ_=>by rw[iP (by grind[Inv.len]),ip rfl]⟩
  .rename_i m cells ex len cap;obtain⟨e0,b0,hs,hk⟩:=pf hk;obtain⟨c',rfl,hr⟩:=hr;obtain⟨I2,S2⟩:=I'.adoptR hs hr;refine⟨_,_,_,_,_,H',rfl,hk,I2,S'.trans S2,?_,False.elim⟩;obtain⟨g1,g2⟩:=tO (b:=.vars (cells.map .d)) hs;simp only[RV];refine⟨⟨_,_,rfl⟩,aa,λq hq=>?_⟩;rw[g1]at hq;cases hq;exact⟨ac,λ_=>by rw[iP (by grind[Inv.len]),ip rfl]⟩
  .rename_i m cells ex len cap y0;obtain⟨e0,b0,hs,hk⟩:=pf hk;obtain⟨c',w2,rfl,hr,hry⟩:=hr;obtain⟨I2,S2⟩:=I'.adoptR hs hr;refine⟨_,_,_,_,_,H',rfl,hk,I2,S'.trans S2,?_,False.elim⟩;obtain⟨g1,g2⟩:=tO (b:=.vars (cells.map .d)) hs;simp only[RV,aK];refine⟨_,rfl,_,_,rfl,⟨⟨_,_,rfl⟩,aa,λq hq=>?_⟩,_,_,rfl,hry,rfl⟩;rw[g1]at hq;cases hq
   exact⟨ac,λ_=>by rw[iP (by grind[Inv.len]),ip rfl]⟩
  .rename_i MT hne2 hne3 hne4 hne5
   have hr2:RV φ' F' H' h1 v w:=by
    unfold EE at hr;split at hr
    .grind
    .grind
    .grind
    .grind
    .grind
    .exact hr
   exact⟨v,h1,φ',F',w,H',rfl,hk,I',S',hr2,False.elim⟩
 trivial
theorem apb{D:rL}(hD:∀g args h v h',D g args h v h'->EI Y g args h v h')(g:lJ Y F H)(I:Inv φ F G H h){c:V}{args:List V}{s:Nat}{k:V->Hp->Prop}(hk:Oq D h c args s k){c':vl}{GS:au}
  (hc:RV φ F H h c c') (ha:aK φ F H h args GS) {U:Prop}:∃f x y,c'=.func (.func f) ⟨x⟩ ⟨y⟩∧∃n,bN U φ F G H h k (dR Y.X n f (x++GS++y) H):=by
 unfold Oq at hk;split at hk
 .rename_i f fs cs;simp[RV]at hc;obtain⟨x,y,rfl,hx,hy⟩:=hc;refine⟨f,x,y,rfl,?_⟩;split at hk
  .rename_i ds h1 hsn;obtain⟨v,hv,hk⟩:=hk;obtain⟨F1,S1,r1⟩:=xz I hsn ((hx.append ha).append hy)
   have I0:Inv [] F1 (λc=>c<H.n) H []:=⟨rfl,λi e b hi=>by simp at hi,λc hc=>hc.elim (λh=>S1.1.lt c (.inl h)) id,λc hc=>S1.1.fb c hc,λi e b hi=>by simp at hi,λi e b j e' b' hi=>by simp at hi,
    λc x g y hx _ hc=>absurd (AH.get_lt hx) hc,I.wf⟩
   obtain⟨n,w,H',φ',F',e,I',S',hr⟩:=hD f ds [] v [] hv [] F1 _ H _ I0 (g.mono S1.2.leF) (r1 [] []);have q3:∀c,c<H.n->H'.get c=H.get c:=λc hc=>S'.keep c (.inr hc)
   obtain ⟨I2,S2⟩:=S1.1.call S'.n I'.wf q3 S'.fm (λc hc=>(S'.fn c hc).imp id λh=>Nat.le_of_not_lt h) (λc hc=>⟨I'.lt c (.inl hc) |> λh=>h,I'.fb c hc⟩)
    (λc x hcn hx h0 g y hg hy h1=>I'.sep c x g y hx h0 (λh=>absurd h (Nat.not_lt.2 hcn)) hg ae h1) (λr hr hk=>S'.nokin r hr hk)
   refine⟨n,?_⟩;rw[e];split at hk
   .rename_i m cells ex len cap;obtain⟨e0,b0,hs,hk⟩:=pf hk;obtain⟨c,z,rfl,hz,hz1,hzw,hd,hex,hez,hm,hp,_⟩:=hr
    obtain ⟨I3,S3⟩:=I2.adopt hs hz hz1 hzw hd hex hez hm (λg hg=>hp g (hg.imp id λh=>S1.1.lt g (.inr h))) (λi e b hi ho=>by
     obtain⟨y,hy,hy1⟩:=S1.1.own_get hi ho
     grind[AH.get_lt])
    refine⟨_,_,_,_,_,H',rfl,hk,I3,(S1.2.trans S2).trans S3,?_,λ_=>q3⟩;obtain⟨g1,g2⟩:=tO (b:=.data m cells ex SM) hs;simp only[RV];refine⟨⟨_,_,rfl⟩,aa,λq hq=>?_⟩;rw[g1]at hq;cases hq;exact⟨Z8 _,λ_=>by rw[iP (by grind[Inv.len]),ip rfl]⟩
   .rename_i m;obtain⟨hk1,hk2⟩:=hk;rcases hr with rfl|hr
    .exact⟨_,h1,φ,F',_,H',rfl,hk1,I2,S1.2.trans S2,cU,λ_=>q3⟩
    obtain⟨e0,b0,hs,hk⟩:=pf hk2;obtain⟨c,z,rfl,hz,hz1,hzw,hd,hex,hez,hm,hp,_⟩:=hr
    obtain ⟨I3,S3⟩:=I2.adopt hs hz hz1 hzw hd hex hez hm (λg hg=>hp g (hg.imp id λh=>S1.1.lt g (.inr h))) (λi e b hi ho=>by
     obtain⟨y,hy,hy1⟩:=S1.1.own_get hi ho
     grind[AH.get_lt])
    refine⟨_,_,_,_,_,H',rfl,hk,I3,(S1.2.trans S2).trans S3,?_,λ_=>q3⟩;obtain⟨g1,g2⟩:=tO (b:=.data m [] Th SM) hs;simp only[RV];refine⟨⟨_,_,rfl⟩,aa,λq hq=>?_⟩;rw[g1]at hq;cases hq;exact⟨Z8 _,λ_=>by rw[iP (by grind[Inv.len]),ip rfl]⟩
   .rename_i x;exact⟨_,h1,φ,F',w,H',rfl,hk,I2,S1.2.trans S2,hr,λ_=>q3⟩
   trivial
  trivial
 trivial
theorem ao7{C:rM}(hC:∀g ds v,C g ds v->Cm Y g ds v)(g:lJ Y F H)(I:Inv φ F G H h){c:V}{args:List V}{k:V->Hp->Prop}(hk:bp C h c args k){c':vl}{GS:au}
  (hc:RV φ F H h c c') (ha:aK φ F H h args GS) {U:Prop}:∃f x y,c'=.func (.func f) ⟨x⟩ ⟨y⟩∧∃n,bN U φ F G H h k (dR Y.X n f (x++GS++y) H):=by
 unfold bp at hk;split at hk
 .rename_i f fs cs;simp[RV]at hc;obtain⟨x,y,rfl,hx,hy⟩:=hc;refine⟨f,x,y,rfl,?_⟩;split at hk
  .rename_i ds h1 hsn;obtain⟨v,hCv,hk⟩:=hk;obtain⟨F1,S1,r1⟩:=xz I hsn ((hx.append ha).append hy);obtain⟨n,w,H',F',e,q1,q2,q3,q4,q5,q6,q7,q8,q9⟩:=hC f ds v hCv F1 H _ I.wf (λc hc=>⟨S1.1.lt c (.inl hc),S1.1.fb c hc⟩) (g.mono S1.2.leF) r1;refine⟨n,?_⟩;rw[e];split at hk
   .rename_i hp
    obtain ⟨I2,S2⟩:=I.call q1 q2 q3 (λc hc=>hc) (λc hc=>.inl hc) (λc hc=>by
     have:=I.lt c (.inl hc);exact⟨Z0 this q1,by rw[q3 c this];exact I.fb c hc⟩) q7 q8
    exact⟨v,h,φ,F,w,H',rfl,hk,I2,S2,lR hp (q9 [] []) _ _ _ _,λ_=>q3⟩
   .obtain⟨I2,S2⟩:=S1.1.call q1 q2 q3 q4 q5 q6 q7 q8;exact⟨v,h1,φ,F',w,H',rfl,hk,I2,S1.2.trans S2,q9 φ h1,λ_=>q3⟩
  trivial
 trivial
theorem SV:∀{xs:List V}{ws:au},p6 xs=Th->aK φ F H h xs ws->∀φ0 F0 H0 h0,aK φ0 F0 H0 h0 xs ws
 |[],ws,_,hr,φ0,F0,H0,h0=>by simpa[aK]using hr
 | x::xs,ws,hp,hr,φ0,F0,H0,h0=>by
  simp[p6,Z7]at hp;simp[aK]at hr ⊢;obtain⟨v,vs,e,r1,r2⟩:=hr;exact⟨v,vs,e,lR hp.1 r1 _ _ _ _,SV hp.2 r2 _ _ _ _⟩
theorem ahG:∀{x:V}{w:vl},fk x=Th->RV φ F H h x w->plain w=Th:=by
 intro x
 induction x using V.rec (motive_2:=λxs=>∀{ws:au},p6 xs=Th->aK φ F H h xs ws->eH ws=Th)with
 |junk=>simp[fk]
 | d x=>
  intro w hp hx;simp[RV]at hx;cases x<;>simp only[RD]at hx
  case sl=>simp[fk]at hp
  case pl=>rw[hx.1];exact hx.2.1
  all_goals(subst hx;rfl)
 |ref=>simp[fk]
 |ptr=>simp[fk]
 |dptr=>simp[fk]
 |cut=>simp[fk]
 | agg l ih=>
  intro w hp hx;simp[RV]at hx;obtain⟨ws,rfl,hr⟩:=hx;simp[plain];exact ih (by simpa[fk]using hp) hr
 | tup l ih=>
  intro w hp hx;simp[RV]at hx;obtain⟨ws,rfl,hr⟩:=hx;simp[plain];exact ih (by simpa[fk]using hp) hr
 |fn=>simp[fk]
 | ifc t x ih=>
  intro w hp hx;simp[RV]at hx;obtain⟨ws,rfl,hr⟩:=hx;simp[plain];exact ih (by simpa[fk]using hp) hr
 |new=>simp[fk]
 | nil=>
  rename_i hr;simp[aK]at hr;subst hr;rfl
 | cons x xs ih ihs=>
  rename_i hp hr;simp[p6,Z7]at hp;simp[aK]at hr;obtain⟨v,vs,rfl,r1,r2⟩:=hr;simp[eH,ih hp.1 r1,ihs hp.2 r2,Ws]
theorem SX:∀{xs:List V}{ws:au},p6 xs=Th->aK φ F H h xs ws->eH ws=Th
 |[],ws,_,hr=>by simp[aK]at hr;subst hr;rfl
 | x::xs,ws,hp,hr=>by
  simp[p6,Z7]at hp;simp[aK]at hr;obtain⟨v,vs,rfl,r1,r2⟩:=hr;simp[eH,ahG hp.1 r1,SX hp.2 r2,Ws]
theorem RD.plain{F':Nat->Prop}{H':AH}:∀{x:D}{v:vl},RD F H x v->Am.plain v=Th->RD F' H' x v
 |.int ..,_,hv,_=>hv
 |.bool _,_,hv,_=>hv
 |.str _,_,hv,_=>hv
 |.pl _,_,hv,_=>hv
 | .sl len cells,v,hv,hp=>by
  simp only[RD]at hv ⊢;rcases hv with⟨h1,h2,h3⟩|⟨c,o,cap,vs,n,e,_⟩
  .refine .inl ⟨h1,h2,?_⟩;rcases h3 with e|⟨c,o,cap,e,_⟩
   .exact .inl e
   .rw[e]at hp;cases hp
  .rw[e]at hp;cases hp
theorem bj.plain{F':Nat->Prop}{H':AH}:∀{xs:List D}{vs:au},bj F H xs vs->(∀v∈vs,Am.plain v=Th)->bj F' H' xs vs
 |[],vs,h,_=>h
 | x::xs,vs,h,hp=>by
  simp[bj]at h ⊢;obtain⟨v,us,rfl,h1,h2⟩:=h;exact⟨v,us,rfl,h1.plain (hp v ac),h2.plain λu hu=>hp u (by simp[hu])⟩
theorem SY:∀{l:au},eH l=Th->∀v∈l,Am.plain v=Th
 |[],_,v,hv=>by cases hv
 | x::l,h,v,hv=>by
  simp[eH,Z7]at h;rcases Zy.1 hv with rfl|hv
  .exact h.1
  .exact SY h.2 v hv
theorem aoT{vs:au}(hx:H.get i=Wf x)(hp:eH x.cells=Th)(hr:cX H i 0 n=Wf vs)(h:bj F H cs vs):bj F' H' cs vs:=by
 refine h.plain λv hv=>SY hp v ?_
 unfold cX at hr;rw[hx]at hr;simp only at hr;split at hr
 .cases hr;exact List.mem_of_mem_drop (Wo hv)
 .cases hr
theorem amv{H0 H':AH}(hq7:∀c x,H0.n<=c->H'.get c=Wf x->x.st≠0->∀g y,g<H0.n->H0.get g=Wf y->y.st≠0->x.fam≠y.fam)(hq8:∀r,r<H0.n->jf H0 r->jf H' r)
  {c f:Nat} {x:bv} (hc:H0.n<=c) (hx:H'.get c=Wf x) (h0:x.st≠0) (hf:f<H0.n):x.fam≠f:=by
 by_cases hk:jf H0 f
 .exact hq8 f hf hk c x hx h0 aa
 .unfold jf at hk;intro he;apply hk;intro c0 x0 hx0 hs0 _ he0;exact hq7 c x hc hx h0 c0 x0 (AH.get_lt hx0) hx0 hs0 (he.trans he0.symm)
theorem apY{X:dh}{B:Nat}{H:AH}(w:WF H):WF (H.bare X B):=by
 refine⟨?_,λc x hx=>?_⟩
 ·have:∀(l:List bv)(n:Nat),RW (rI X B n l)=RW l:=by
   intro l
   induction l with
   |nil=>intro n;rfl
   |cons x l ih=>intro n;simp[rI,ih]
  exact(this _ _).trans w.len
 .rw[uR]at hx;cases hg:H.get c with
  |none=>rw[hg]at hx;cases hx
  | some y=>
   rw[hg,Option.map_some]at hx;have:=w.fam c y hg;split at hx
   .cases hx;exact this
   .cases hx;exact Zb _
theorem alt{H:AH}(w:WF H')(hb:H.n<=b):(H.graft H').get b=H'.get b:=by
 by_cases hl:b<H'.n
 .obtain⟨x,hx⟩:=w.get_some hl;rw[hx,WN hb hx]
 .rw[AH.get_neg hl,AH.get_neg (H:=H.graft H') hl]
theorem aeu{C:CC}(hC:∀g ds v,C.p g ds v->Cm Y g ds v)(g:lJ Y F H)(I:Inv φ F G H h){B:Nat}(hB:∀g cs,Y.glob g=Wf cs->g<B){o:oR}{nt:Nat}(ho:qQ Y nt o=Th){RK:Env}{a:au}(e:dF φ F H h RK a)
  {k:V->Hp->Prop} (hk:J9 Y C o RK h k):∃n v F' w H',jL Y.X (dR Y.X n) B H a o=Wf (w,H')∧k v h∧Inv φ F' G H' h∧Stp G φ F H h φ F' H' h∧RV φ F' H' h v w:=by
 unfold J9 at hk;split at hk
 .rename_i c hc
  have hopd:o.op.operands.all qc=Th:=by
   simp only[qQ,Z7]at ho;exact ho.1.2
  rw[hc]at hopd
  have hx:∀x∈c.operands.toList,qc x=Th:=λx hx=>by
   rw[<-Array.all_toList,Zz]at hopd;exact hopd x hx
  split at hk
  .rename_i f hf;have rf:=dE g e (hx f (by simp[Call.operands,hf]));have ra:=yY g e (l:=c.args.toList) λx h=>hx x (by simp[Call.operands,h])
   unfold vn at hk;split at hk
   .rename_i g1 hg1;split at hk
    .rename_i hp;obtain⟨v,hCv,hk⟩:=hk;rw[hg1]at rf;simp only[RV,aK]at rf;obtain⟨_,_,hfv,rfl,rfl⟩:=rf
     let F0:Nat->Prop:=λc=>F c∧c<B∧Y.X.glob c=Th∧(H.bare Y.X B).get c=H.get c
     have rp:=SV hp ra
     obtain ⟨n,w,H1,F1,q0,q1,q2,q3,q4,q5,q6,q7,q8,q9⟩:=hC g1 _ v hCv F0 (H.bare Y.X B) (c.args.toList.map (Am.ev Y.X a)) (apY I.wf) (λc hc=>by
       refine⟨I.lt c (.inl hc.1),?_⟩;rw[hc.2.2.2];exact I.fb c hc.1) (λi cs hi=>by
       obtain⟨g1,g2,⟨x,g3,g4,g5⟩,vs,g6,g7⟩:=g i cs hi;have hb:=hB i cs hi
       have hsame:(H.bare Y.X B).get i=H.get i:=by
        rw[uR,g3,Option.map_some,ip ⟨hb,g1⟩,ip g5,<-g4]
       refine⟨g1,⟨g2,hb,g1,hsame⟩,⟨x,by rw[hsame];exact g3,g4,g5⟩,vs,?_,?_⟩
       .rw[x9 hsame];exact g6
       .exact aoT g3 g5 g6 g7) (λφ0 h0=>rp φ0 _ _ h0)
     have Fd:∀c,c<H.n->(H.graft H1).get c=H.get c:=λc hc=>H5 q1 hc
     have hnew:∀c,H.n<=c->(H.graft H1).get c=H1.get c:=λc hc=>alt q2 hc
     have DB:∀{c y},(H.bare Y.X B).get c=Wf y->y.st≠0->∃x,H.get c=Wf x∧x.st≠0∧x.fam=y.fam:=λ{c y} hy h0=>by
      rw[uR]at hy;cases hg:H.get c with
      |none=>rw[hg]at hy;cases hy
      | some x=>
       rw[hg,Option.map_some]at hy;split at hy
       .cases hy;refine⟨x,rfl,?_,rfl⟩;intro hz;apply h0
        show(if eH x.cells=Th then x.st else x.st+x.st)=0
        split<;>omega
       .cases hy;exact absurd rfl h0
     have hwf:WF (H.graft H1):=by
      refine⟨?_,λc x hx=>?_⟩
      .show((List.range (H1.n-H.n)).map _++H.l).length=H1.n
       have:=I.wf.len;have q1':H.n<=H1.n:=q1;simp;omega
      .by_cases hc:c<H.n
       .rw[Fd c hc]at hx;exact I.wf.fam c x hx
       .rw[hnew c aa]at hx;exact q2.fam c x hx
     have hnf:∀{c x f},H.n<=c->H1.get c=Wf x->x.st≠0->f<H.n->x.fam≠f:=λhc hx h0 hf=>amv (H0:=H.bare Y.X B) q7 q8 hc hx h0 hf
     let F2:Nat->Prop:=λc=>F c∨(F1 c∧H.n<=c)
     obtain ⟨I2,S2⟩:=I.call (H':=H.graft H1) (F':=F2) q1 hwf Fd (λc hc=>.inl hc) (λc hc=>hc.imp id (·.2)) (λc hc=>by
       rcases hc with hc|⟨hc,hn⟩
       .have:=I.lt c (.inl hc);exact⟨Z0 this q1,by rw[Fd c this];exact I.fb c hc⟩
       .obtain⟨k1,k2⟩:=q6 c hc;exact⟨k1,by rw[hnew c hn];exact k2⟩) (λc x hn hx h0 g y hg hy _=>by
       rw[hnew c hn]at hx;have:=I.wf.fam g y hy;exact hnf hn hx h0 aa) (λr hr hk c x hx h0 hc=>by
       by_cases hcn:c<H.n
       .rw[Fd c hcn]at hx;exact hk c x hx h0 hc
       .rw[hnew c aa]at hx;exact hnf aa hx h0 hr)
     have Fm:gK F1 F2 H1 (H.graft H1):=by
      refine⟨λc hc=>?_,λc hc=>?_,λc x hx h0=>?_⟩
      .rcases q5 c hc with hc'|hc'
       .exact .inl hc'.1
       .exact .inr ⟨hc,hc'⟩
      .rcases q5 c hc with hc'|hc'
       .have:=I.lt c (.inl hc'.1);rw[Fd c this,q3 c this,hc'.2.2.2]
       .exact hnew c hc'
      .by_cases hcn:c<H.n
       .rw[q3 c hcn]at hx;obtain⟨y,hy,hy0,_⟩:=DB hx h0;exact⟨y,by rw[Fd c hcn];exact hy,hy0⟩
       .exact⟨x,by rw[hnew c aa];exact hx,h0⟩
     refine⟨n,v,F2,w,H.graft H1,?_,hk,I2,S2,RV.mono Fm (fw.refl φ h) _ _ (q9 φ h)⟩;have DP:eH (c.args.toList.map (Am.ev Y.X a))=Th:=SX hp ra;unfold jL;rw[hc];simp only[pF,hf];rw[show Am.ev Y.X a f=_ from hfv];simp[Array.toList_map,List.nil_append,Zo,DP,iT,q0]
    .cases hk
   .cases hk
  .cases hk
 .cases hk
theorem Lv(hY:tB Y){C:CC}(hC:Cn Y C)(g:lJ Y F H)(I:Inv φ F G H h){dr:Bool}{LT:Act}{o:oR}{nt:Nat}(ho:qQ Y nt o=Th){RK:Env}{a:au}(e:dF φ F H h RK a)
  {rid:Option Nat} (R:Cl Y.X.P φ F G H h o.op rid) {k:V->Hp->Prop} (hk:yd Y C dr LT o RK h k) :
  ∃n,bN (dr=Th∧(lh o.op=Th∨yP o.op=Th)) φ F G H h k (iC Y.X (dR Y.X n) rid H a o):=by
 by_cases hc:∃c,o.op=.call c∧py c.callee=SM
 .obtain⟨c,hc,hb⟩:=hc
  have hopd:o.op.operands.all qc=Th:=by
   simp only[qQ,Z7]at ho;exact ho.1.2
  rw[hc]at hopd
  have hx:∀x∈c.operands.toList,qc x=Th:=λx hx=>by
   rw[<-Array.all_toList,Zz]at hopd;exact hopd x hx
  obtain⟨bp,args,ats⟩:=c;cases bp with
  |builtin b=>trivial
  | invoke r m=>
   grind[yd]
  | value f=>
   unfold yd at hk;rw[hc]at hk;have rf:=dE g e (hx f (by simp[Call.operands]));have ra:=yY g e (l:=args.toList) λx h=>hx x (by simp[Call.operands,h])
   have fin:∀{g1 x y n},Am.ev Y.X a f=.func (.func g1) ⟨x⟩ ⟨y⟩->bN (dr=Th∧(lh o.op=Th∨yP o.op=Th)) φ F G H h k (dR Y.X n g1 (x++args.toList.map (Am.ev Y.X a)++y) H) ->
     ∃n,bN (dr=Th∧(lh o.op=Th∨yP o.op=Th)) φ F G H h k (iC Y.X (dR Y.X n) rid H a o):=by
    intro g1 x y n hf p;refine⟨n,?_⟩;unfold iC;rw[hc];simp only[py,Zg,iF,pF];rw[show Am.ev Y.X a f=_ from hf];rw[hc]at p;simpa using p
   dsimp only at hk;split at hk
   .split at hk
    .obtain⟨g1,x,y,hf,n,p⟩:=apb hC.i g I hk rf ra (U:=true=Th∧(lh o.op=Th∨yP o.op=Th))
     grind
    .obtain⟨g1,x,y,hf,n,p⟩:=ao9 hC.i g I hk rf ra;exact fin hf (bN.weak p ac)
   .obtain⟨g1,x,y,hf,n,p⟩:=ao7 hC.p g I hk rf ra (U:=dr=Th∧(lh o.op=Th∨yP o.op=Th))
    grind
 ·have hd:∀n,iC Y.X (dR Y.X n) rid H a o=du Y.X rid H a o:=λn=>by
   unfold iC;split
   .rename_i c hoc;split
    .rfl
    grind
   .rfl
  refine⟨0,?_⟩;rw[hd]
  obtain ⟨v,h',φ',F',w,H',q1,q2,q3,q4,q5,q6⟩:=ah7 hY g I ho e R hk λc hoc=>by
   cases hb:py c.callee with
   |true=>rfl
   |false=>grind
  refine⟨v,h',φ',F',w,H',q1,q2,q3,q4,q5,λu=>?_⟩;obtain⟨u1,u2|u2⟩:=u
  .grind
  .unfold yP at u2
   grind
end
def mB(Y:eu)(nt:Nat):Code->Bool
 |.region _ RM _=>RM.toList.all (qQ Y nt)
 |.seq x y=>mB Y nt x&&mB Y nt y
 |.cond c x y=>qc c&&mB Y nt x&&mB Y nt y
 |.block _ c|.loop c|.scope c=>mB Y nt c
 |.rangeFunc g ps x y=>qc g&&ps.toList.all (λt=>decide (t<nt))&&mB Y nt x&&mB Y nt y
 |_=>Th
section
variable{Y:eu}{φ:ax}{F G:Nat->Prop}{H:AH}{h:Hp}
theorem Inv.weakG(I:Inv φ F G H h)(hs:∀c,G' c->G c)(hk:∀r,G r->¬G' r->jf H r∧∀x,H.get r=Wf x->x.st≠0->x.fam=r):Inv φ F G' H h where
 len:=I.len
 blk:=I.blk
 lt c hc:=I.lt c (hc.imp id (hs c))
 fb:=I.fb
 priv i e b hi ho c hc:=I.priv i e b hi ho c (hc.imp id (hs c))
 inj:=I.inj
 sep c x g y hx h0 hc hg hy hy0:=by
  by_cases hG:G c
  .obtain⟨h1,h2⟩:=hk c hG hc;rw[h2 x hx h0];exact λe=>h1 g y hy hy0 ae e.symm
  .exact I.sep c x g y hx h0 hG (hs g hg) hy hy0
 wf:=I.wf
theorem Stp.weakG(S:Stp G φ F H h φ' F' H' h')(hs:∀c,G' c->G c):Stp G' φ F H h φ' F' H' h' where
 n:=S.n
 keep c hc:=S.keep c (hc.imp id (hs c))
 fm:=S.fm
 fn c hc:=(S.fn c hc).imp id λhg hg'=>hg (hs c hg')
 born:=S.born
 nokin r hr:=S.nokin r (hs r hr)
 hl:=S.hl
 sl:=S.sl
theorem ahu{H:AH}(w:WF H)(w':WF H')(hn:H.n<=H'.n)(hk:∀c,c<H.n->H'.get c=H.get c):preB H H'=Th:=by
 have hl:H'.l.drop (H'.n-H.n)=H.l:=by
  apply Ye;intro i;rw[List.getElem?_drop];by_cases hi:i<H.n
  .have:=hk (H.n-1-i) aa;rw[AH.get_pos aa,AH.get_pos aa]at this;rw[show H'.n-1-(H.n-1-i)=H'.n-H.n+i by omega,show H.n-1-(H.n-1-i)=i by omega]at this;omega
  .rw[List.getElem?_eq_none (by grind[WF.len]),List.getElem?_eq_none (by rw[w.len];omega)]
 unfold preB;rw[hl]
 have:∀l:List bv,oX l l=Th:=by
  intro l
  induction l with
  |nil=>rfl
  |cons x l ih=>simp[oX,ih]
 grind
def Rs(RC:Option Nat)(n i c:Nat):Prop:=match RC with
 |none=>False
 |some B=>B+i<=c∧c<B+n
def Kept(P:pG)(RM:List oR)(RC:Option Nat)(i:Nat)(F:Nat->Prop)(H:AH):Prop:=∀B,RC=Wf B->∀j o,RM[j]?=Wf o->i<=j->H.get (B+j)=Wf (nH P (B+j) o)∧jf H (B+j)∧¬F (B+j)
theorem Vz(P:pG)(b:Nat)(o:oR):(nH P b o).st≠0->(nH P b o).fam=b:=by
 unfold nH;split
 .split
  .intro _;rfl
  .intro h;trivial
 .intro h;trivial
theorem aky{P:pG}{RM:List oR}{RC:Option Nat}{i:Nat}{o:oR}(K:Kept P RM RC i F H)(ho:RM[i]?=Wf o){n:Nat}(hn:n=RW RM){F0:Nat->Prop}{φ0:ax}
  (I:Inv φ F (λc=>G c∨Rs RC n (i+1) c) H h) (hG:∀B,RC=Wf B->¬G (B+i)) (hS:∀B,RC=Wf B->∀j e b,h[j]?=Wf (e,b)->Own b->φ.getD j 0≠B+i)
  (hz:∀t,o.op=.alloc t->∃z,fX P t=Wf z):Cl P φ F (λc=>G c∨Rs RC n (i+1) c) H h o.op (RC.map (· + i)):=by
 cases RC with
 | none=>
  have:∀q:Op,Cl P φ F (λc=>G c∨Rs Vc n (i+1) c) H h q Vc:=by
   intro q;cases q<;>exact λr hr=>by cases hr
  grind
 | some B=>
  obtain⟨k1,k2,k3⟩:=K B rfl i o ho (Z8 _)
  have nG:¬(G (B+i)∨Rs (Wf B) n (i+1) (B+i)):=by
   rintro(hg|hg)
   .grind
   .grind[Rs]
  have un:(∀t,o.op≠.alloc t)->tC (λc=>G c∨Rs (Wf B) n (i+1) c) H (Wf (B+i)):=by
   intro hna r hr;cases hr;refine⟨⟨pP,?_,rfl,rfl⟩,nG,k2⟩;rw[k1];unfold nH;split
   .grind
   .rfl
  show Cl P φ F _ H h o.op (Wf (B+i))
  cases DS:o.op
  case alloc t=>
   obtain⟨z,hz⟩:=hz t DS;refine⟨⟨AH.get_lt k1,k3,nG,hS B rfl,k2⟩,z,hz,?_⟩
   grind[nH]
  all_goals exact un (by intro t e;rw[DS]at e;cases e)
theorem abQ(e:dF φ F H h RK a){b:Bool}(hc:Em RM.toList RK j=.d (.bool b)):jU RM a j=Wf b:=by
 unfold Em at hc;unfold jU;rw[Array.getElem?_toList]at hc;split at hc
 .rename_i o ho;rw[ho];split at hc
  .rename_i t ht;have:=e t;rw[hc,mT,qm,Z6]at this;simp[Option.bind_some,ht];cases hq:a[t]? with
   |none=>rw[hq]at this;cases this
   |some v=>grind
  trivial
 trivial
theorem Ry(φ:ax)(F:Nat->Prop)(H:AH)(h:Hp):RV φ F H h (.tup []) undef:=by simp[RV];exact⟨[],rfl,rfl⟩
theorem abO(e:dF φ F H h RK a)(hc:Em RM.toList RK j=.tup []):jU RM a j=Vc:=by
 unfold Em at hc;unfold jU;rw[Array.getElem?_toList]at hc;split at hc
 .rename_i o ho;rw[ho];split at hc
  .rename_i t ht;have:=e t;rw[hc,qm,Z6]at this;simp[RV]at this;obtain⟨ws,hw,_⟩:=this;simp[Option.bind_some,ht];cases hq:a[t]? with
   |none=>rfl
   |some v=>grind
  trivial
 trivial
theorem QK{x:V}{P:Prop}:∀{ys:List V},sp h x ys P->(∀y∈ys,Ey h x y=Th)∧P
 |[],hs=>⟨λ_ hy=>by simp at hy,hs⟩
 | y::ys,hs=>by
  unfold sp at hs;split at hs
  .rename_i hb;obtain⟨h1,h2⟩:=QK hs
   grind
  trivial
theorem PE{P:pG}{RM:Array oR}{i:Nat}{x:oR}{j:Nat}{t:tI}{p b:Tmp}(hl:(iz P x.op&&oT RM i j)=Th)(hx:x.op=.load t (.tmp p))(hr:qK RM p=Wf b):∀{l:List (oR×Nat)},(x,j)∈l->b∈xk P RM i l
 | (y,m)::l,hm=>by
  unfold xk;rcases Zy.1 hm with e|hm
  .grind
  .have:=PE hl hx hr hm
   grind
theorem ale{b:Bk}(hb:aH h s e=b)(hn:b≠.none):h[s]?=Wf (e,b):=by grind[aH]
theorem ahU(hb:AU h s e tot=Th):∃n cs ex,h[s]?=Wf (e,.data n cs ex SM)∧jD (aH h s e)=Wf tot:=by
 unfold AU at hb;split at hb
 .rename_i n cs ex hc;exact⟨n,cs,ex,ale hc (λq=>by cases q),by rw[hc];exact RT Wf (Zk hb)⟩
 trivial
theorem ownB_of(hb:ownB h s e tot=Th):∃cs,h[s]?=Wf (e,.vars cs)∧jD (aH h s e)=Wf tot:=by
 unfold ownB at hb;split at hb
 .rename_i cs hc;refine⟨cs,?_,?_⟩
  .grind[aH]
  .rw[hc];exact RT Wf (Zk hb)
 trivial
theorem Pe{vs:au}(hw:kf H b off vs=Wf H1)(hy:H.get b'=Wf y)(MT:b'≠b)(hf:∀x,H.get b=Wf x->y.fam≠x.fam):H1.get b'=Wf y:=by
 unfold kf at hw;split at hw
 .rename_i x hx;split at hw
  .simp[Z9]at hw;subst hw
   have k:(if x.shared=Th then H.kill (kin b x.fam)else H).get b'=Wf y:=by
    split
    .rw[AH.get_kill,hy,Option.map_some]
     have:kin b x.fam b' y=SM:=by
      unfold kin;have:(y.fam == x.fam)=SM:=by simpa using hf x hx
      simp[this]
     grind
    .exact hy
   have k2:∃z,(if x.shared=Th then H.kill (kin b x.fam)else H).get b=Wf z:=by
    split
    .grind[AH.get_kill]
    .grind
   grind[AH.get_set]
  trivial
 trivial
theorem aln{K:Prop}(hg:gt P dr RM o RK h K):(∀t p b,dr=Th->o.op=.load t (.tmp p)->nK RM p=Th->qK RM p=Wf b->uh P RM=Th->Fq h (lk RK b) (lk RK p)=Th)∧K:=by
 unfold gt at hg;split at hg
 .grind[sm]
 grind
theorem Lb(hy:H.get b'=Wf y):(H.push x).get b'=Wf y:=by grind[AH.get_push_old,AH.get_lt]
theorem aqa{P:pG}{H1:AH}{n Nd:Nat}{s v:vl}{k:Nat}{cs:au}{b':Nat}{y:bv}(hv:fh P H n Nd s k cs=Wf (v,H1))(hy:H.get b'=Wf y)
  (hf:∀c,iZ s=Wf c->b'≠c∧∀z,H.get c=Wf z->y.fam≠z.fam):H1.get b'=Wf y:=by
 unfold fh at hv;split at hv
 .grind[Lb]
 .rename_i b off len cap;obtain⟨f1,f2⟩:=hf b rfl;split at hv
  .cases hv
  split at hv
  .grind
  split at hv
  .grind[Pe]
  split at hv
  case isFalse=>cases hv
  split at hv
  case h_2=>cases hv
  rename_i x hx;split at hv
  case isFalse=>cases hv
  rename_i hlive;split at hv
  .grind[Lb]
  split at hv
  case isFalse=>cases hv
  cases hv;apply Lb;rw[AH.get_kill,AH.get_set hx,iN f1,hy,Option.map_some]
  have:∀m,beyond b x.fam m b' y=SM:=λm=>by
   unfold beyond;have:(y.fam == x.fam)=SM:=by simpa using f2 x hx
   grind
  grind
 trivial
theorem amI{cf:fW}{n:Option Nat}(hw:zG RM o.op=Th)(q1:iC Y.X cf n H a o=Wf (w,H1))(e:dF φ F H h RK a)(MT:CG o RK≠.junk):
  ∃v,RV φ F H h (CG o RK) v∧∀b' y,H.get b'=Wf y->(∀c,iZ v=Wf c->b'≠c∧∀z,H.get c=Wf z->y.fam≠z.fam)->H1.get b'=Wf y:=by
 obtain⟨dst,op,ty,pos,aft,grd⟩:=o;cases op
 case store t x y=>
  cases x with
  | tmp p=>
   refine⟨d6 a p,e p,λb' y hy hf=>?_⟩;unfold iC at q1;simp only[du,Z3,Z5]at q1;obtain⟨H2,hs,_,rfl⟩:=q1;have hs:tK Y.X.P H t (d6 a p) _=Wf H2:=hs;unfold tK at hs;split at hs
   .rename_i b off n g3 _;split at hs
    .rw[g3]at hf;obtain⟨f1,f2⟩:=hf b rfl
     grind[Pe]
    trivial
   trivial
  |_=>exact absurd rfl MT
 case call c=>
  obtain⟨bp,args,ats⟩:=c;cases bp with
  |value f=>trivial
  |invoke r m=>trivial
  | builtin b=>
   cases b<;>try(simp[zG]at hw;done)
   have hsp:CG ⟨dst,.call ⟨.builtin .append,args,ats⟩,ty,pos,aft,grd⟩ RK=(match args.toList with|.tmp p::_=>lk RK p|_=>.junk):=rfl;rw[hsp]at MT ⊢;split at MT
   .rename_i p rest hargs;refine⟨d6 a p,e p,λb' y hy hf=>?_⟩;unfold iC at q1;simp only[py,iT,du]at q1;rw[Array.toList_map,hargs,Zv]at q1;have hq:fM Y.X.P H .append ats ty (d6 a p::rest.map (Am.ev Y.X a))=Wf (w,H1):=q1;cases rest with
    |nil=>trivial
    | cons y r=>
     cases r with
     |cons z r=>trivial
     | nil=>
      simp only[Zv,Yq,fM]at hq
      repeat' (split at hq)
      all_goals first
       |(cases hq;done)
       |exact aqa hq hy hf
   trivial
 all_goals(simp[zG]at hw)
theorem L9(hY:tB Y){C:CC}(hC:Cn Y C){nt:Nat}{RM:Array oR}(hops:∀o∈RM.toList,qQ Y nt o=Th){dr:Bool}{RC:Option Nat}(hdr:RC.isSome=dr)(hchk:dr=Th->GK Y.X.P RM=Th)
  {k:Env->Hp->Prop}:∀(l:List oR)(i:Nat)(acts:List Act)(φ:ax)(F:Nat->Prop)(H:AH)(h:Hp)(RK:Env)(a:au),
  (∀j,l[j]?=RM.toList[i+j]?)->nt<=RW a->lJ Y F H->Inv φ F (λc=>G c∨Rs RC (RW RM.toList) i c) H h->(∀B,RC=Wf B->∀c,G c->c<B)->(∀B,RC=Wf B->∀g cs,Y.glob g=Wf cs->g<B)->Kept Y.X.P RM.toList RC i F H->dF φ F H h RK a ->
  tZ Y C dr RM acts l RK h k ->
  ∃n a' H' JT h' φ' F',jN Y.X (dR Y.X n) RM RC i l a H=Wf (a',H')∧k JT h'∧Inv φ' F' G H' h'∧Stp G φ F H h φ' F' H' h'∧dF φ' F' H' h' JT a'∧RW a'=RW a
 | [],i,acts,φ,F,H,h,RK,a,hl,hnt,g,I,hB,hGB,K,e,hk=>by
  refine⟨0,a,H,RK,h,φ,F,rfl,cU,?_,Stp.refl ..,e,rfl⟩
  have hi:RW RM.toList<=i:=by
   have:=hl 0;simpa using this
  refine I.weakG (λc hc=>.inl hc) λr hr hn=>?_
  rcases hr with hr|hr
  .trivial
  .unfold Rs at hr;split at hr
   .trivial
   .omega
 | o::l,i,acts,φ,F,H,h,RK,a,hl,hnt,g,I,hB,hGB,K,e,hk=>by
  have hoi:RM.toList[i]?=Wf o:=by have:=hl 0;simpa using this.symm
  have hmem:o∈RM.toList:=Ya hoi;have ho:=hops o hmem;have hi:i<RW RM.toList:=gD hoi
  have hdst:∀t,o.dst=Wf t->t<RW a:=by
   intro t ht;simp only[qQ,ht,Z7,dT]at ho;exact Z0 ho.1.1 hnt
  -- what is kept for this operation leaves the ward
  have I':Inv φ F (λc=>G c∨Rs RC (RW RM.toList) (i+1) c) H h:=by
   refine I.weakG (λc hc=>hc.imp id λhr=>?_) λr hr hn=>?_
   .unfold Rs at hr ⊢
    grind
   .rcases hr with hr|hr
    .grind
    .unfold Rs at hr hn;cases RC with
     |none=>trivial
     | some B=>
      simp only at hr hn
      have:r=B+i:=by
       have:=λhh=>hn (.inr hh)
       omega
      subst this;obtain⟨k1,k2,_⟩:=K B rfl i o hoi (Z8 _)
      grind[Vz]
  have R:Cl Y.X.P φ F (λc=>G c∨Rs RC (RW RM.toList) (i+1) c) H h o.op (RC.map (· + i)):=by
   refine aky K hoi rfl (F0:=F) (φ0:=φ) I' (λB hb hg=>?_) (λB hb j e' b hj hob=>?_) λt ht=>?_
   .grind
   .have:=(I.priv j e' b hj hob (B+i) (.inr (.inr (by grind[Rs])))).1;omega
   .grind[qQ,nj]
  have next:∀{φ1 F1 H1 h1 env1} {a1:au},Inv φ1 F1 (λc=>G c∨Rs RC (RW RM.toList) (i+1) c) H1 h1->Stp (λc=>G c∨Rs RC (RW RM.toList) (i+1) c) φ F H h φ1 F1 H1 h1 ->
    dF φ1 F1 H1 h1 env1 a1->a1.length=RW a->tZ Y C dr RM (OS (takes o.op) acts) l env1 h1 k ->
    ∃n a' H' JT h' φ' F',jN Y.X (dR Y.X n) RM RC (i+1) l a1 H1=Wf (a',H')∧k JT h'∧Inv φ' F' G H' h'∧Stp G φ F H h φ' F' H' h'∧dF φ' F' H' h' JT a'∧RW a'=RW a:=by
   intro φ1 F1 H1 h1 env1 a1 I1 S1 e1 Rg hk1
   have K1:Kept Y.X.P RM.toList RC (i+1) F1 H1:=by
    intro B hb j q hq hij;obtain⟨k1,k2,k3⟩:=K B hb j q hq aa;have hr:Rs RC (RW RM.toList) (i+1) (B+j):=by subst hb;simp only[Rs];have:=gD hq;omega
    refine⟨by grind[Stp.keep],S1.nokin _ (.inr hr) k2,λhF=>?_⟩;rcases S1.fn _ hF with hF|hF
    .trivial
    .grind
   obtain ⟨n,a',H',JT,h',φ',F',q1,q2,q3,q4,q5,q6⟩:=L9 hY hC hops hdr hchk l (i+1) _ φ1 F1 H1 h1 env1 a1 (λj=>by
    have:=hl (j+1)
    grind) aa (g.mono S1.leF) I1 hB hGB K1 e1 hk1
   exact⟨n,a',H',JT,h',φ',F',q1,q2,q3,(S1.weakG λc hc=>.inl hc).trans q4,q5,aa⟩
  have run:∀{kk:V->Hp->Prop},GF Y C dr RM (ic (takes o.op) acts) o l RK h kk->Region.wanted o (jU RM a)=Th ->
    ∃ n v h1 φ1 F1 w H1,dV Y.X (dR Y.X n) RM RC i o a H=Wf (dQ a o.dst w,H1)∧kk v h1∧Inv φ1 F1 (λc=>G c∨Rs RC (RW RM.toList) (i+1) c) H1 h1 ∧
     Stp (λc=>G c∨Rs RC (RW RM.toList) (i+1) c) φ F H h φ1 F1 H1 h1∧RV φ1 F1 H1 h1 v w:=by
   intro kk DS hw
   have hidx:RM.size-(RW l+1)=i:=by
    have h0:=gD hoi;have h1:=hl (RW l);have h2:=hl (RW l+1);rw[List.getElem?_eq_none ac]at h2;have h3:=(List.getElem?_eq_none_iff.1 h2.symm);rw[List.getElem?_eq_getElem ac]at h1;have h4:=gD h1.symm;have h5:RW RM.toList=RM.size:=Array.length_toList;omega
   obtain⟨hgt,DS⟩:=aln DS;obtain⟨hsp,DS⟩:=QK DS;rw[hidx]at DS;cases hsol:(dr&&od RM i o.op)with
   | true=>
    rw[hsol]at DS;simp[Z7]at hsol;obtain⟨hd,hsl⟩:=hsol
    obtain ⟨B,rfl⟩:∃B,RC=Wf B:=by
     cases RC with
     |none=>rw[<-hdr]at hd;cases hd
     |some B=>exact⟨B,rfl⟩
    obtain⟨n,v,F1,w,H1,q1,q2,q3,q4,q5⟩:=aeu hC.p g I' (hGB B rfl) ho e DS
    have hg:oB Y.X.P RM o a=Th:=by
     have:tw o.op=Th:=by unfold od at hsl;grind
     unfold oB;split
     .rename_i hop2;rw[hop2]at this;cases this
     .rfl
    exact⟨n,v,h,φ,F1,w,H1,by unfold dV;rw[ip hw,Ee (Oo _) hsl hg,q1],q2,q3,q4,q5⟩
   |false=>
   rw[hsol]at DS;obtain⟨act',DS⟩:=aqm DS;obtain⟨n,v,h1,φ1,F1,w,H1,q1,q2,q3,q4,q5,q6⟩:=Lv hY hC g I' ho e R DS;refine⟨n,v,h1,φ1,F1,w,H1,?_,q2,q3,q4,q5⟩;unfold dV;rw[ip hw];unfold gF;rw[amR (by rw[hdr];exact hsol),q1];simp only;rw[iN];intro hc;rw[Z7]at hc;obtain⟨hb,hc⟩:=hc;have hd:dr=Th:=by rw[<-hdr];exact hb
   -- a read goes where it is said to go
   have hgate:oB Y.X.P RM o a=Th:=by
    unfold oB;split
    .rename_i t p hopr;cases hm:uh Y.X.P RM with
     |false=>rfl
     | true=>
      simp[Wg,We];split
      .rename_i b hr;cases hdp:nK RM p with
       | false=>
        have:qK RM p=Wf p:=by unfold qK vQ;rw[hdp]
        grind
       | true=>
        have k1:=hgt t p b hd hopr hdp hr hm;have e1:=e p;have e2:=e b;unfold Fq at k1
        grind[Zk,ownB_of,RV,iZ]
      .rfl
    .rfl
   simp only[hgate,Wg,We,Z7,Y6]at hc;obtain⟨⟨hch,hpre⟩,hoff⟩:=hc;have this:=Zz.1 (hchk hd) (o,i) (Yb.2 hoi);simp[hch,Wg,We,X4]at this;cases DB:GI Y.X.P RM i o.op with
   | false=>
    have hda:Nw Y.X.P dr RM o l=Th:=by unfold Nw;rw[hd,hidx,hch,DB];rfl
    grind[ahu,Inv.wf,Stp.n]
   | true=>
    unfold GI at DB;split at DB
    .rename_i hwant
     have hmode:uh Y.X.P RM=Th:=by
      unfold uh;rw[List.any_eq_true];exact⟨(o,i),Yb.2 hoi,ae⟩
     have:Go.Am.offB Y.X.P RM i a H H1=Th:=by
      unfold Go.Am.offB;rw[Zz];rintro⟨x,j⟩ hx;have h2:=Zz.1 DB (x,j) hx;cases hlu:(iz Y.X.P x.op&&oT RM i j)with
      |false=>grind
      | true=>
       simp[hlu,Wg,We]at h2 ⊢;split at h2
       .rename_i t' p' hx';cases hr:qK RM p' with
        |none=>grind
        | some b'=>
         simp[hx',hr]
         have hp':lk RK b'∈(Nv Y.X.P dr RM o l).map (lk RK):=by
          refine Zw.2 ⟨b',?_,rfl⟩;unfold Nv;rw[hd,hwant];simp[Ws,hidx];exact PE hlu hx' hr hx
         have hap:=hsp _ hp';have MT:CG o RK≠.junk:=λq=>by rw[q]at hap;cases hap
         obtain⟨v0,r0,hoth⟩:=amI hwant q1 e MT;have e2:=e b'
         -- the slot that is read
         have fin:∀{s2 ee2 o2 tt2:Nat},lk RK b'=.ptr s2 ee2 o2 tt2->ownB h s2 ee2 tt2=Th->(∀cs y,h[s2]?=Wf (ee2,.vars cs)->H.get (φ.getD s2 0)=Wf y->∀c,iZ v0=Wf c->φ.getD s2 0≠c∧∀z,H.get c=Wf z->y.fam≠z.fam)->sameAt H H1 (d6 a b')=Th:=by
          intro s2 ee2 o2 tt2 g2 k3 hh;obtain⟨c2,m2,n2⟩:=ownB_of k3;rw[g2]at e2;simp only[RV]at e2;have w2:=(e2.2.2 _ n2).2 rfl;obtain⟨y,hy,_⟩:=I.blk s2 ee2 _ m2;have:=hoth _ y hy (hh c2 y m2 hy);unfold sameAt;rw[w2];simp only[iZ,hy,this,beq_self_eq_true]
         unfold Ey at hap;split at hap
         .rename_i s1 ee1 o1 tt1 s2 ee2 o2 tt2 g1 g2;simp[Z7,Y6]at hap;obtain⟨⟨k1,k2⟩,k3⟩:=hap;obtain⟨c1,m1,n1⟩:=ownB_of k2;refine fin g2 k3 λcs y m2 hy c hc=>?_
          rw[g1]at r0;simp only[RV]at r0;rw[(r0.2.2 _ n1).2 rfl]at hc;simp only[iZ,Z9]at hc;subst hc;have MT:s1≠s2:=λq=>by grind[Xs]
          obtain⟨i1,i2⟩:=I.inj s2 ee2 _ s1 ee1 _ m2 trivial m1 trivial (λq=>MT q.symm)
          grind
         .rename_i s1 ee1 _ _ _ tt1 s2 ee2 o2 tt2 g1 g2;simp[Z7,Y6]at hap;obtain⟨⟨k1,k2⟩,k3⟩:=hap;obtain⟨n1',c1,ex1,m1,n1⟩:=ahU k2;refine fin g2 k3 λcs y m2 hy c hc=>?_
          rw[g1]at r0;simp only[RV]at r0;rw[(r0.2.2 _ n1).2 rfl]at hc;simp only[iZ,Z9]at hc;subst hc;have MT:s1≠s2:=λq=>by grind
          obtain⟨i1,i2⟩:=I.inj s2 ee2 _ s1 ee1 _ m2 trivial m1 rfl (λq=>MT q.symm)
          grind
         .rename_i g1 g2;refine fin g2 hap λcs y m2 hy c hc=>?_
          rw[g1]at r0;simp[RV,RD]at r0;rw[r0.1]at hc;cases hc
         trivial
       trivial
     grind
    trivial
  have fin:∀{kk:V->Hp->Prop},(∀v h1,kk v h1->tZ Y C dr RM (OS (takes o.op) acts) l (Gn RK o.dst v) h1 k)->GF Y C dr RM (ic (takes o.op) acts) o l RK h kk->Region.wanted o (jU RM a)=Th ->
    ∃n a' H' JT h' φ' F',jN Y.X (dR Y.X n) RM RC i (o::l) a H=Wf (a',H')∧k JT h'∧Inv φ' F' G H' h'∧Stp G φ F H h φ' F' H' h'∧dF φ' F' H' h' JT a'∧RW a'=RW a:=by
   intro kk hkk DS hw;obtain⟨n,v,h1,φ1,F1,w,H1,q1,q2,q3,q4,q5⟩:=run DS hw;have Rg:RW (dQ a o.dst w)=RW a:=by unfold dQ;split<;>simp
   obtain⟨m,a',H',JT,h',φ',F',r1,r2,r3,r4,r5,r6⟩:=next q3 q4 ((e.mono q4.leF q4.sl).put hdst q5) Rg (hkk v h1 q2)
   refine⟨max n m,a',H',JT,h',φ',F',?_,r2,r3,r4,r5,r6⟩;unfold jN;rw[Qz (tj _ (Nat.le_max_left n m)) q1];exact KN (tj _ (Nat.le_max_right n m)) r1
  unfold tZ at hk;rw[adA]at hk;split at hk
  .grind[Region.wanted]
  .rename_i j w hg;unfold gd at hk;split at hk
   .rename_i b hb;have hy:=abQ e hb;split at hk
    .grind[Region.wanted]
    .rename_i hbw
     have hw:Region.wanted o (jU RM a)=SM:=by
      unfold Region.wanted;rw[hg];simp only[hy];simpa using hbw
     have Rg:RW (dQ a o.dst undef)=RW a:=by unfold dQ;split<;>simp
     obtain⟨m,a',H',JT,h',φ',F',r1,r2,r3,r4,r5,r6⟩:=next I' (Stp.refl ..) (e.put hdst (Ry φ F H h)) Rg hk
     grind[jN,dV]
   .rename_i hb;have hy:=abO e hb
    have hw:Region.wanted o (jU RM a)=SM:=by
     unfold Region.wanted;rw[hg];simp[hy]
    have Rg:RW (dQ a o.dst undef)=RW a:=by unfold dQ;split<;>simp
    obtain⟨m,a',H',JT,h',φ',F',r1,r2,r3,r4,r5,r6⟩:=next I' (Stp.refl ..) (e.put hdst (Ry φ F H h)) Rg hk
    grind[jN,dV]
   trivial
end
def mF(RK:Env)(ks:ax):Env:=ks.map λt=>(t,lk RK t)
def pZ(RK:Env):ax->Nat->List V->Env
 |[],_,_=>RK
 |t::ts,i,vs=>pZ ((t,ge vs i)::RK) ts (i+1) vs
theorem HJ(RK:Env):∀(ks:ax)(k:Env->Prop),wC RK ks k=k (mF RK ks)
 |[],_=>rfl
 |t::ts,k=>by simp[wC,He,HJ RK ts,mF,Zv]
theorem Gp:∀(ts:ax)(RK:Env)(i:Nat)(vs:List V)(k:Env->Prop),ya RK ts i vs k=k (pZ RK ts i vs)
 |[],_,_,_,_=>rfl
 |t::ts,RK,i,vs,k=>by simp only[ya,pZ];exact Gp ts _ _ vs k
theorem UK(RK:Env)(ks:ax)(t:Nat):lk (mF RK ks) t=.junk∨(t∈ks∧lk (mF RK ks) t=lk RK t):=by
 induction ks with
 |nil=>exact .inl rfl
 | cons s ks ih=>
  show lk ((s,lk RK s)::mF RK ks) t=.junk∨_∧lk ((s,lk RK s)::mF RK ks) t=_
  rw[Bj];split
  .rename_i h;subst h;exact .inr ⟨ac,rfl⟩
  grind
theorem UJ:∀(ts:ax)(RK:Env)(i:Nat)(vs:List V)(t:Nat),lk (pZ RK ts i vs) t=lk RK t∨∃j,ts[j]?=Wf t∧lk (pZ RK ts i vs) t=ge vs (i+j)
 |[],_,_,_,_=>.inl rfl
 | s::ts,RK,i,vs,t=>by
  rcases UJ ts ((s,ge vs i)::RK) (i+1) vs t with h|⟨j,h1,h2⟩
  .rw[Bj]at h;split at h
   .rename_i e;subst e;exact .inr ⟨0,rfl,h⟩
   .exact .inl h
  .exact .inr ⟨j+1,h1,by rw[show i+(j+1)=i+1+j by omega];exact h2⟩
theorem H8(l:ax)(RK:Env)(j t:Nat)(h:l[j]?=Wf t):ge (l.map (lk RK)) j=lk RK t:=by
 induction l generalizing j with
 |nil=>simp at h
 | cons s l ih=>
  cases j with
  |zero=>simp[List.getElem?_cons_zero,Z9]at h;subst h;rfl
  |succ j=>simp[List.getElem?_cons_succ]at h;exact ih j h
section
variable{Y:eu}{φ:ax}{F G:Nat->Prop}{H:AH}{h:Hp}
theorem dF.join{env1:Env}{keep:ax}(h1:∀t∈keep,RV φ F H h (lk RK t) (d6 a t)){vs:List V}(h2:∀j t,outs[j]?=Wf t->RV φ F H h (ge vs j) (d6 a t)):
  dF φ F H h (pZ (mF RK keep) outs 0 vs) a:=by
 intro t
 grind[UJ,UK,RV]
theorem LK{l:ax}(hn:wi asF l=Th){t:Nat}(ht:t∈l):t ∉ asF:=by
 induction l with
 |nil=>cases ht
 | cons s l ih=>
  grind[wi,Xs]
theorem ad7{X:dh}{cf:fW}{H:AH}(h:dV X cf RM RC i o a H=Wf (a',H'))(t:Nat)(ht:∀d,o.dst=Wf d->t≠d):d6 a' t=d6 a t:=by
 have hp:∀v,d6 (dQ a o.dst v) t=d6 a t:=by
  intro v;unfold dQ;split
  .grind[qm]
  .rfl
 grind[dV]
theorem RA{X:dh}{cf:fW}{RM:Array oR}{RC:Option Nat}:∀{l:List oR}{i:Nat}{a a':au}{H H':AH},jN X cf RM RC i l a H=Wf (a',H')->∀t,t ∉ zu l->d6 a' t=d6 a t
 |[],_,_,_,_,_,h,_,_=>by cases h;rfl
 | o::l,i,a,a',H,H',h,t,ht=>by
  unfold jN at h;split at h
  .rename_i a1 H1 hs
   have hd:(∀d,o.dst=Wf d->t≠d)∧t ∉ zu l:=by
    unfold zu at ht;split at ht
    .grind
    .grind
   rw[RA h t hd.2]
   grind[ad7]
  .cases h
theorem ag4{X:dh}{cf:fW}{H:AH}(h:pX X cf RM draw a H=Wf (a',H'))(t:Nat)(ht:t ∉ zu RM.toList):d6 a' t=d6 a t:=by grind[pX,RA]
theorem SP(P:pG):∀(l:List oR)(H:AH),WF H->WF (im P l H)
 |[],_,w=>w
 | o::l,H,w=>by
  refine SP P l _ (w.push ?_);unfold nH;split
  .split
   .exact Z8 _
   .exact Zb _
  .exact Zb _
theorem ag3(hY:tB Y){C:CC}(hC:Cn Y C){nt:Nat}{RM:Array oR}(hops:∀o∈RM.toList,qQ Y nt o=Th){draw:Bool}(hchk:draw=Th->GK Y.X.P RM=Th)
  {k:Env->Hp->Prop} {acts:List Act} {RK:Env} {a:au} (hnt:nt<=RW a) (g:lJ Y F H) (I:Inv φ F G H h) (e:dF φ F H h RK a) (hk:tZ Y C draw RM acts RM.toList RK h k) :
  ∃n a' H' JT h' φ' F',pX Y.X (dR Y.X n) RM draw a H=Wf (a',H')∧k JT h'∧Inv φ' F' G H' h'∧Stp G φ F H h φ' F' H' h'∧dF φ' F' H' h' JT a'∧RW a'=RW a:=by
 cases draw with
 | false=>
  obtain ⟨n,a',H',JT,h',φ',F',q1,q⟩:=L9 (G:=G) hY hC hops (dr:=false) (RC:=none) rfl (λh=>by cases h) RM.toList 0 acts φ F H h RK a (λj=>by simp) hnt g (by
   have:(λc=>G c∨Rs Vc (RW RM.toList) 0 c)=G:=by funext c;simp[Rs]
   grind) (λB hB=>by cases hB) (λB hB=>by cases hB) (λB hB=>by cases hB) e hk
  exact⟨n,a',H',JT,h',φ',F',by unfold pX;rw[iN ac];exact q1,q⟩
 | true=>
  have aH:∀b x,H.get b=Wf x->(im Y.X.P RM.toList H).get b=Wf x:=λb x hx=>Gr (X:=Y.X) RM.toList H b x hx
  have hn:(im Y.X.P RM.toList H).n=H.n+RW RM.toList:=Ld (X:=Y.X) RM.toList H;have hat:∀i o,RM.toList[i]?=Wf o->(im Y.X.P RM.toList H).get (H.n+i)=Wf (nH Y.X.P (H.n+i) o):=λi o ho=>Le (X:=Y.X) RM.toList H i o ho
  have hw:=SP Y.X.P RM.toList H I.wf
  have Fd:∀c,c<H.n->(im Y.X.P RM.toList H).get c=H.get c:=λc hc=>by
   obtain⟨x,hx⟩:=I.wf.get_some hc
   grind
  have hnew:∀c x,H.n<=c->(im Y.X.P RM.toList H).get c=Wf x->x.st≠0->x.fam=c:=λc x hc hx h0=>by
   have:=AH.get_lt hx;rw[hn]at this;obtain⟨o,ho⟩:∃o,RM.toList[c-H.n]?=Wf o:=⟨_,List.getElem?_eq_getElem aa⟩;have:=hat _ o ho;rw[show H.n+(c-H.n)=c by omega,hx]at this
   grind[Vz]
  have hnk:∀r,jf H r->jf (im Y.X.P RM.toList H) r:=λr hr c x hx h0 hc=>by
   by_cases hcn:c<H.n
   .rw[Fd c hcn]at hx;exact hr c x hx h0 hc
   .rw[hnew c x aa hx h0];exact hc
  have hnk2:∀j,jf (im Y.X.P RM.toList H) (H.n+j):=λj c x hx h0 hc=>by
   by_cases hcn:c<H.n
   .have:=hw.fam c x hx;omega
   .rw[hnew c x aa hx h0];exact hc
  have Fm:gK F F H (im Y.X.P RM.toList H):=⟨λ_ hc=>hc,λc hc=>Fd c (I.lt c (.inl hc)),λc x hx h0=>⟨x,aH c x hx,h0⟩⟩
  have hS:Stp G φ F H h φ F (im Y.X.P RM.toList H) h:=
   ⟨aa,λc hc=>Fd c (I.lt c hc),λ_ hc=>hc,λ_ hc=>.inl hc,Fm.born,λr _=>hnk r,rfl,fw.refl φ h⟩
  have kO:∀i e k,h[i]?=Wf (e,k)->Own k->(im Y.X.P RM.toList H).get (φ.getD i 0)=H.get (φ.getD i 0)∧φ.getD i 0<H.n:=λi e k hi ho=>by
   grind[Inv.own_get,AH.get_lt]
  have hI:Inv φ F (λc=>G c∨Rs (Wf H.n) (RW RM.toList) 0 c) (im Y.X.P RM.toList H) h:=by
   refine⟨I.len,?_,?_,λc hc=>by rw[Fd c (I.lt c (.inl hc))];exact I.fb c hc,?_,?_,?_,hw⟩
   .intro i e k hi;by_cases ho:Own k
    .exact(I.blk i e k hi).mono Fm (fw.refl φ h) (kO i e k hi ho).1
    .cases k with
     |none=>trivial
     |vars cs=>exact absurd trivial ho
     | data n cs ex fr=>
      cases fr with
      |false=>trivial
      |true=>exact(I.blk i e _ hi).mono Fm (fw.refl φ h) (Fd _ (I.lt _ (.inl (H9 I hi))))
   .rintro c (hc|hc|hc)
    .have:=I.lt c (.inl hc);omega
    .have:=I.lt c (.inr hc);omega
    grind[Rs]
   .intro i e k hi ho c hc;obtain⟨k1,k2⟩:=kO i e k hi ho
    have old:F c∨G c->c≠φ.getD i 0∧∀x y,(im Y.X.P RM.toList H).get c=Wf x->(im Y.X.P RM.toList H).get (φ.getD i 0)=Wf y->x.st=1->x.fam≠y.fam:=λhc=>by
     obtain⟨p1,p2⟩:=I.priv i e k hi ho c hc
     grind[Inv.lt]
    rcases hc with hc|hc|hc
    .grind
    .grind
    .simp only[Rs]at hc;refine⟨aa,λx y hx hy h1=>?_⟩;rw[hnew c x aa hx aa];rw[k1]at hy;have:=I.wf.fam _ y hy;omega
   .grind[Inv.inj]
   .intro c x q y hx h0 hc hq hy hy0
    have hcn:c<H.n:=by
     have:=AH.get_lt hx;rw[hn]at this;exact Classical.byContradiction λhh=>hc (.inr (by grind[Rs]))
    rw[Fd c hcn]at hx;rcases hq with hq|hq
    .rw[Fd q (I.lt q (.inr hq))]at hy;exact I.sep c x q y hx h0 (λhG=>hc (.inl hG)) hq hy hy0
    .simp only[Rs]at hq;rw[hnew q y aa hy hy0];have:=I.wf.fam c x hx;omega
  obtain ⟨n,a',H',JT,h',φ',F',q1,q2,q3,q4,q5,q6⟩:=L9 (G:=G) hY hC hops (dr:=true) (RC:=some H.n) rfl hchk RM.toList 0 acts φ F (im Y.X.P RM.toList H) h RK a (λj=>by simp) hnt (g.mono Fm) hI
   (λB hB c hc=>by cases hB;exact I.lt c (.inr hc)) (λB hB i cs hi=>by cases hB;exact I.lt i (.inl (g i cs hi).2.1)) (λB hB j o ho _=>by
    cases hB;exact⟨hat j o ho,hnk2 j,λhF=>by have:=I.lt _ (.inl hF);omega⟩) (e.mono Fm (fw.refl φ h)) hk
  grind[pX,Stp.trans]
end
section
variable{Y:eu}{φ:ax}{F G:Nat->Prop}{H:AH}{h:Hp}
theorem Dm{l:ax}:fC l s=Th↔s ∉ l:=by
 induction l with
 |nil=>simp[fC]
 | cons t l ih=>
  simp only[fC,Z7,Y6,ih,Zy,not_or];constructor
  .grind[Xs]
  .rintro⟨h1,h2⟩;refine⟨?_,h2⟩;cases hb:Nat.beq t s with
   |false=>rfl
   |true=>simp_all
theorem Sr(Pc:ax):∀(i:Nat)(h0 h:Hp)(j:Nat),(dl Pc i h0 h)[j]?=match h0[j]?,h[j]? with
  |some (e0,_),Wf (e,b)=>Wf (if fC Pc (i+j)then(e,b)else(e0,.none))
  |none,x=>x
  |_,Vc=>Vc
 |_,[],h,j=>by rfl
 | _,(_,_)::_,[],j=>by
  simp[dl,List.getElem?_nil];split<;>first|rfl|simp_all
 |i,(e0,b0)::h0,(e,b)::h,0=>by rfl
 | i,(e0,b0)::h0,(e,b)::h,j+1=>by
  simp[dl,List.getElem?_cons_succ];rw[Sr Pc (i+1) h0 h j,show i+1+j=i+(j+1) by omega]
theorem Gf{h:Hp}(hl:RW h=h0.length){b:Bk}(hj:h[j]?=Wf (e,b)):
  (j ∉ Pc∧(dl Pc 0 h0 h)[j]?=Wf (e,b))∨(j∈Pc∧∃e0 b0,h0[j]?=Wf (e0,b0)∧(dl Pc 0 h0 h)[j]?=Wf (e0,.none)):=by
 have PJ:=gD hj;obtain⟨e0,b0⟩:Nat×Bk:=h0[j]'(by omega);rw[Sr];cases h0j:h0[j]? with
 |none=>grind
 | some p=>
  obtain⟨e0,b0⟩:=p;rw[hj];simp only[Zh];by_cases hc:j∈Pc
  .grind[Dm]
  .left;exact⟨hc,by rw[ip (Dm.2 hc)]⟩
theorem Gg(Pc:ax):∀(i:Nat)(h0 h:Hp),RW h=h0.length->RW (dl Pc i h0 h)=h0.length
 |_,[],h,e=>by trivial
 |_,_::_,[],e=>by simp at e
 |i,(_,_)::h0,(_,_)::h,e=>by simp only[dl,List.length_cons]at e ⊢;rw[Gg Pc (i+1) h0 h aa]
theorem Gd{h:Hp}(hl:RW h=h0.length)(hj:h[j]?=Vc):(dl Pc 0 h0 h)[j]?=Vc:=by grind[Gg]
theorem K3{h:Hp}(hl:RW h=h0.length)(hs:s ∉ Pc):(dl Pc 0 h0 h)[s]?=h[s]?:=by grind[Gd,Gf]
mutual
theorem RV.reset{Pc:ax}{h0:Hp}(hl:RW h=h0.length):∀(x:V)(v:vl),gZ Pc x=Th->RV φ F H h x v->RV φ F H (dl Pc 0 h0 h) x v
 |.junk,_,_,_=>by trivial
 |.d x,v,_,hv=>by trivial
 | .ref s e off len cap tot,v,ho,hv=>by
  grind[gZ,K3,Dm,RV,ep,aH]
 | .ptr s e off tot,v,ho,hv=>by
  grind[gZ,K3,Dm,RV,ep,aH]
 |.dptr cs pos,v,_,hv=>by trivial
 |.cut n,v,_,hv=>by trivial
 | .agg l,v,ho,hv=>by
  simp[gZ]at ho;simp[RV]at hv ⊢;obtain⟨ws,e,r⟩:=hv;exact⟨ws,e,aK.reset hl l ws ho r⟩
 | .tup l,v,ho,hv=>by
  simp[gZ]at ho;simp[RV]at hv ⊢;obtain⟨ws,e,r⟩:=hv;exact⟨ws,e,aK.reset hl l ws ho r⟩
 | .fn g fs cs,v,ho,hv=>by
  simp[gZ,Z7]at ho;simp[RV]at hv ⊢;obtain⟨a,b,e,r,q⟩:=hv;exact⟨a,b,e,aK.reset hl fs a ho.1 r,aK.reset hl cs b ho.2 q⟩
 | .ifc t x,v,ho,hv=>by
  simp[gZ]at ho;simp[RV]at hv ⊢;obtain⟨w,e,r⟩:=hv;exact⟨w,e,RV.reset hl x w ho r⟩
 |.new ..,v,_,hv=>by trivial
theorem aK.reset{Pc:ax}{h0:Hp}(hl:RW h=h0.length):∀(xs:List V)(vs:au),fK Pc xs=Th->aK φ F H h xs vs->aK φ F H (dl Pc 0 h0 h) xs vs
 |[],vs,_,hv=>by trivial
 | x::xs,vs,ho,hv=>by
  simp[fK,Z7]at ho;simp[aK]at hv ⊢;obtain⟨v,us,e,h1,h2⟩:=hv;exact⟨v,us,e,RV.reset hl x v ho.1 h1,aK.reset hl xs us ho.2 h2⟩
end
theorem TA{Pc:ax}:∀{i:Nat}{h:Hp}{j e:Nat}{b:Bk},iq Pc i h=Th->h[j]?=Wf (e,b)->i+j ∉ Pc->offB Pc b=Th
 | i,(e1,b1)::h,0,e,b,ho,hj,hn=>by
  grind[iq,Dm]
 | i,(e1,b1)::h,j+1,e,b,ho,hj,hn=>by
  simp only[iq,Z7]at ho;simp[List.getElem?_cons_succ]at hj;exact TA (i:=i+1) ho.2 hj (by rw[show i+1+j=i+(j+1) by omega];exact hn)
 |_,[],_,_,_,_,hj,_=>by simp at hj
theorem Inv.reset(I:Inv φ F G H h){Pc:ax}{h0:Hp}(hl:RW h=h0.length)(ho:iq Pc 0 h=Th):Inv φ F G H (dl Pc 0 h0 h):=by
 have hown:∀i e b,(dl Pc 0 h0 h)[i]?=Wf (e,b)->Own b->i ∉ Pc∧h[i]?=Wf (e,b):=by
  intro i e b hi hob;cases hj:h[i]? with
  |none=>grind[Gd]
  | some p=>
   obtain⟨e1,b1⟩:=p;rcases Gf hl hj (Pc:=Pc)with⟨hn,e2⟩|⟨hc,e0,b0,_,e2⟩
   .grind
   .rw[e2]at hi;cases hi;trivial
 refine⟨by rw[Gg Pc 0 h0 h hl];exact I.len.trans hl,?_,I.lt,I.fb,?_,?_,I.sep,I.wf⟩
 .intro i e b hi;cases hj:h[i]? with
  |none=>grind[Gd]
  | some p=>
   obtain⟨e1,b1⟩:=p;rcases Gf hl hj (Pc:=Pc)with⟨hn,e2⟩|⟨hc,e0,b0,_,e2⟩
   .rw[e2]at hi;cases hi;have:=I.blk i e b hj;cases b with
    |none=>trivial
    | vars cs=>
     obtain⟨x,hx,h1,h2,h2e,h3⟩:=this;exact⟨x,hx,h1,h2,h2e,aK.reset hl _ _ (TA ho hj ae) h3⟩
    |data n cs ex fr=>exact this
   .rw[e2]at hi;cases hi;trivial
 .intro i e b hi hob;obtain⟨_,hi⟩:=hown i e b hi hob;exact I.priv i e b hi hob
 .intro i e b j e' b' hi hob hj hob' hij;obtain⟨_,hi⟩:=hown i e b hi hob;obtain⟨_,hj⟩:=hown j e' b' hj hob';exact I.inj i e b j e' b' hi hob hj hob' hij
theorem Stp.reset(S:Stp G φ F H h φ' F' H' h')(Pc:ax):Stp G φ F H h φ' F' H' (dl Pc 0 h h') where
 n:=S.n
 keep:=S.keep
 fm:=S.fm
 fn:=S.fn
 born:=S.born
 nokin:=S.nokin
 hl:=Gg Pc 0 h h' S.hl
 sl s:=by
  obtain⟨a1,a2⟩:=S.sl s;by_cases hs:s∈Pc
  .cases hj:h'[s]? with
   | none=>
    have:(dl Pc 0 h h')[s]?=h'[s]?:=by rw[hj];exact Gd S.hl hj
    grind[ep,aH]
   | some p=>
    obtain⟨e,b⟩:=p;rcases Gf S.hl hj (Pc:=Pc)with⟨hn,_⟩|⟨_,e0,b0,h1,h2⟩
    .trivial
    .have e1:ep h s=e0:=by simp[ep,h1]
     have e2:ep (dl Pc 0 h h') s=e0:=by simp[ep,h2]
     refine⟨aa,λ_ m hm=>?_⟩
     grind[aH,jD]
  grind[K3,hl,ep,aH]
def fN(X:dh)(G:Nat->Prop)(φ:ax)(F:Nat->Prop)(H:AH)(h:Hp)(al:au)(asF:ax)(c:Code)(k:K):Prop:=
 ∃n ex DH H' JT h' φ' F',cS X (dR X n) n c al H=Wf (ex,DH,H')∧k ex JT h'∧Inv φ' F' G H' h'∧Stp G φ F H h φ' F' H' h'∧dF φ' F' H' h' JT DH∧RW DH=RW al∧∀t,t ∉ asF->d6 DH t=d6 al t
theorem Pg{X:dh}{c:Code}{i:nY}(Is:AX asF i=Th)(e:dF φ F H h RK al){k:K}{T:K->Prop}(hT:∀k,T k->fN X G φ F H h al asF c k)(hw:wrap i RK k T):fN X G φ F H h al asF c k:=by
 unfold wrap at hw;split at hw
 .rename_i outs keep;obtain⟨n,ex,DH,H',JT,h',φ',F',q1,q2,q3,q4,q5,q6,q7⟩:=hT _ hw;cases ex
  case normal=>
   simp[HJ,Gp]at q2;refine⟨n,_,DH,H',_,h',φ',F',q1,q2,q3,q4,dF.join (env1:=JT) (λt ht=>?_) (λj t hj=>?_),q6,q7⟩
   .rw[q7 t (LK Is ht)];exact RV.mono q4.leF q4.sl _ _ (e t)
   .rw[H8 outs JT j t hj];exact q5 t
  all_goals exact⟨n,_,DH,H',JT,h',φ',F',q1,q2,q3,q4,q5,q6,q7⟩
 grind
theorem alx(I:Inv φ F G H h){g:Gh}(hg:M0 g h=Wf h'):∃F',Inv φ F' G H h'∧Stp G φ F H h φ F' H h':=by
 unfold M0 at hg;split at hg
 .rename_i s;split at hg
  .rename_i e n cs ex hs;split at hg
   .rename_i hc;cases hg;obtain⟨x,hx,h1,h2,h3,h4,h5,h6,h7⟩:=I.blk s e _ hs;refine⟨F,I.swap hs rfl rfl (by simp[jD]) ⟨x,hx,h1,h7 rfl,?_,aK.ofD h2⟩⟩;cases ex
    .have:n=1:=by simpa[Nat.beq_eq]using hc
     exact this▸h4 rfl
    .exact .inl (h3 (.inr rfl))
   .trivial
  .trivial
 .rename_i s;split at hg
  .rename_i e vs hs;split at hg
   .rename_i ds h1 ht;split at hg
    .rename_i ws hw;cases hg;obtain⟨x,hx,x1,x2,x3,x4⟩:=I.blk s e _ hs;obtain⟨F1,⟨I1,S1⟩,r1⟩:=zR I ht x4;have hs1:=lj ac hw;obtain⟨y,hy,y1,y2,y3,y4⟩:=I1.blk s e _ hs1;have hl1:=r1.length;have hl2:=y4.length;have hxy:x=y:=by rw[hx]at hy;exact Option.some.inj hy
     subst hxy;obtain⟨I2,S2⟩:=I1.swap (b':=.vars (ds.map .d)) hs1 trivial (m:=RW ws) rfl (by simp only[jD,List.length_map];congr 1;omega) ⟨x,hx,x1,x2,x3,aK.ofD r1⟩;exact⟨F1,I2,S1.trans S2⟩
    .trivial
   .trivial
  .trivial
theorem WO:∀(l:List Gh){F:Nat->Prop}{h:Hp}{k:Hp->Prop},Inv φ F G H h->H7 l h k->∃h' F',k h'∧Inv φ F' G H h'∧Stp G φ F H h φ F' H h'
 |[],F,h,k,I,hk=>⟨h,F,hk,I,Stp.refl ..⟩
 | g::l,F,h,k,I,hk=>by
  unfold H7 at hk;split at hk
  .rename_i h1 hs;obtain⟨F1,I1,S1⟩:=alx I hs;obtain⟨h2,F2,k2,I2,S2⟩:=WO l I1 hk;exact⟨h2,F2,k2,I2,S1.trans S2⟩
  .trivial
theorem alw(I:Inv φ F G H h){i:nY}(e:dF φ F H h RK al){k:Env->Hp->Prop}(hk:H6 i RK h k):∃JT h' F',k JT h'∧Inv φ F' G H h'∧Stp G φ F H h φ F' H h'∧dF φ F' H h' JT al:=by
 unfold H6 at hk;split at hk
 .obtain⟨h',F',q1,q2,q3⟩:=WO _ I hk;exact⟨RK,h',F',q1,q2,q3,λt=>RV.mono q3.leF q3.sl _ _ (e t)⟩
 .rename_i t;rw[He]at hk;unfold WW at hk;split at hk
  .rename_i x h' ht;obtain⟨F',⟨I',S'⟩,r⟩:=E3 I ht (e t);refine⟨_,h',F',hk,I',S',λu=>?_⟩;rw[Bj];split
   .rename_i hu
    first|(subst hu;simpa[RV]using r)|(have:=r;grind[RV])
   .exact RV.mono S'.leF S'.sl _ _ (e u)
  .trivial
 .exact⟨RK,h,F,hk,I,Stp.refl ..,e⟩
theorem XU{l:List (eX×ax×ax)}{f:eX×ax×ax->List V->Hp->Prop}:∀{ex:eX}{vs:List V}{h:Hp},aU (l.map λx=>(x.1,f x)) ex vs h->∃x∈l,x.1=ex∧De l ex=x.2.1∧f x vs h:=by
 induction l with
 |nil=>intro ex vs h hx;trivial
 | cons x l ih=>
  intro ex vs h hx;obtain⟨e0,o,kp⟩:=x;simp[Zv,aU]at hx
  have heq:D7 e0 ex=Th->e0=ex:=by
   intro he;unfold D7 at he;split at he
   .rw[Zk he]
   .rfl
   .rfl
   .cases he
  grind[De]
theorem dF.putP:∀(ps:ax)(i:Nat)(vs:List V)(xs:au)(RK:Env)(a:au),dF φ F H h RK a->(∀j v,xs[j]?=Wf v->RV φ F H h (ge vs (i+j)) v)->RW xs=RW ps->(∀t∈ps,t<RW a) ->
  dF φ F H h (pZ RK ps i vs) (Am.putP ps xs a)∧RW (Am.putP ps xs a)=RW a
 | [],i,vs,xs,RK,a,e,_,_,_=>by
  have:Am.putP [] xs a=a:=by cases xs<;>rfl
  trivial
 |p::ps,i,vs,[],RK,a,e,_,hl,_=>by simp at hl
 | p::ps,i,vs,x::xs,RK,a,e,hv,hl,ht=>by
  simp[pZ,Am.putP]
  have e1:dF φ F H h ((p,ge vs i)::RK) (a.set p x):=by
   intro t;rw[Bj,WP a p t x (ht p ac)];split
   .exact hv 0 x ac
   .exact e t
  obtain ⟨q1,q2⟩:=dF.putP ps (i+1) vs xs _ _ e1 (λj v hj=>by
   have:=hv (j+1) v cU
   rwa [show i+(j+1)=i+1+j by omega]at this) ae (λt h'=>by grind)
  grind
theorem dF.keep(e:dF φ F H h RK a)(ks:ax):dF φ F H h (mF RK ks) a:=by
 intro t;rcases UK RK ks t with h'|⟨_,h'⟩
 .grind[RV]
 .rw[h'];exact e t
theorem rr(hY:tB Y){C:CC}(hC:Cn Y C){nt:Nat}:∀(c:Code)(a:cr)(RK:Env)(k:K)(φ:ax)(F:Nat->Prop)(H:AH)(h:Hp)(al:au),
  mB Y nt c=Th->js Y.X.P c a=Th->nt<=RW al->lJ Y F H->Inv φ F G H h->dF φ F H h RK al->den Y C c a RK h k->fN Y.X G φ F H h al (kJ c) c k
 |.skip,a,RK,k,φ,F,H,h,al,_,_,_,_,I,e,hk=>⟨1,.normal,al,H,RK,h,φ,F,rfl,hk,I,Stp.refl ..,e,rfl,λ_ _=>rfl⟩
 |.label _,a,RK,k,φ,F,H,h,al,_,_,_,_,I,e,hk=>⟨1,.normal,al,H,RK,h,φ,F,rfl,hk,I,Stp.refl ..,e,rfl,λ_ _=>rfl⟩
 |.exit id,a,RK,k,φ,F,H,h,al,_,_,_,_,I,e,hk=>⟨1,.exit id,al,H,RK,h,φ,F,rfl,hk,I,Stp.refl ..,e,rfl,λ_ _=>rfl⟩
 |.ret,a,RK,k,φ,F,H,h,al,_,_,_,_,I,e,hk=>⟨1,.ret,al,H,RK,h,φ,F,rfl,hk,I,Stp.refl ..,e,rfl,λ_ _=>rfl⟩
 | .region id RM draw,a,RK,k,φ,F,H,h,al,hv,ha,hnt,g,I,e,hk=>by
  simp only[mB,Zz]at hv;simp[js,X4,Y6]at ha
  have hdead:MM a.i=SM∧tZ Y C draw RM a.i.acts RM.toList RK h (k .normal):=by
   unfold den at hk;split at hk
   .trivial
   .rename_i MT;refine⟨?_,hk⟩;unfold MM;split
    .trivial
    .rfl
  obtain⟨hd0,hk⟩:=hdead;rw[hd0]at ha
  have hch:draw=Th->GK Y.X.P RM=Th:=by
   intro hd;rcases ha with(h2|h2)|h2
   .grind
   .cases h2
   .exact h2
  obtain⟨n,a',H',JT,h',φ',F',q1,q2,q3,q4,q5,q6⟩:=ag3 hY hC (draw:=draw) hv hch hnt g I e hk;refine⟨n+1,.normal,a',H',JT,h',φ',F',?_,q2,q3,q4,q5,q6,λt ht=>ag4 q1 t ht⟩
  grind[cS,Sz,uP]
 | .scope c,a,RK,k,φ,F,H,h,al,hv,ha,hnt,g,I,e,hk=>by
  obtain⟨n,ex,DH,H',JT,h',φ',F',q1,q⟩:=rr hY hC c a.a RK k φ F H h al hv ha hnt g I e hk;refine⟨n+1,ex,DH,H',JT,h',φ',F',?_,q⟩;simp[cS];exact oD (uP Y.X n) (Z8 n) q1
 | .seq x y,a,RK,k,φ,F,H,h,al,hv,ha,hnt,g,I,e,hk=>by
  simp[mB,js,Z7]at hv ha;obtain⟨n,ex,al1,H1,env1,h1,φ1,F1,q1,q2,q3,q4,q5,q6,q7⟩:=rr hY hC x a.a RK _ φ F H h al hv.1 ha.1 hnt g I e hk;cases ex
  case normal=>
   have q2':H6 a.i env1 h1 λRK h=>den Y C y a.b RK h k:=q2
   obtain⟨env1,hg,Fg,kg,Ig,Sg,q5⟩:=alw q3 q5 q2';have q4:=q4.trans Sg;obtain⟨m,ex,DH,H',JT,h',φ',F',r1,r2,r3,r4,r5,r6,r7⟩:=rr hY hC y a.b env1 k φ1 Fg H1 hg al1 hv.2 ha.2 aa (g.mono q4.leF) Ig q5 kg;refine⟨max n m+1,ex,DH,H',JT,h',φ',F',?_,r2,r3,q4.trans r4,r5,aa,λt ht=>?_⟩
   .simp[cS];rw[oD (tj Y.X aa) aa q1];exact oD (tj Y.X aa) aa r1
   grind[kJ]
  all_goals
   refine⟨n+1,_,al1,H1,env1,h1,φ1,F1,?_,q2,q3,q4,q5,q6,λt ht=>?_⟩
   .simp[cS];rw[oD (tj Y.X aa) (Z8 n) q1]
   .simp[kJ,Xc,not_or]at ht;exact q7 t ht.1
 | .cond c x y,a,RK,k,φ,F,H,h,al,hv,ha,hnt,g,I,e,hk=>by
  simp[mB,js,Z7]at hv ha;refine Pg ha.1.1 e (λk hk=>?_) hk;unfold aQ at hk;split at hk
  .rename_i b hb;have hc:=dE g e hv.1.1;rw[hb,mT]at hc;cases b with
   | true=>
    obtain⟨n,ex,DH,H',JT,h',φ',F',q1,q2,q3,q4,q5,q6,q7⟩:=rr hY hC x a.a RK k φ F H h al hv.1.2 ha.1.2 hnt g I e hk;refine⟨n+1,ex,DH,H',JT,h',φ',F',?_,q2,q3,q4,q5,q6,λt ht=>?_⟩
    .simp[cS,hc];exact oD (uP Y.X n) (Z8 n) q1
    grind[kJ]
   | false=>
    obtain⟨n,ex,DH,H',JT,h',φ',F',q1,q2,q3,q4,q5,q6,q7⟩:=rr hY hC y a.b RK k φ F H h al hv.2 ha.2 hnt g I e hk;refine⟨n+1,ex,DH,H',JT,h',φ',F',?_,q2,q3,q4,q5,q6,λt ht=>?_⟩
    .simp[cS,hc];exact oD (uP Y.X n) (Z8 n) q1
    grind[kJ]
  trivial
 | .block id c,a,RK,k,φ,F,H,h,al,hv,ha,hnt,g,I,e,hk=>by
  simp[mB,js,Z7]at hv ha;refine Pg (asF:=kJ c) ha.1 e (λk hk=>?_) hk;obtain⟨n,ex,DH,H',JT,h',φ',F',q1,q2,q⟩:=rr hY hC c a.a RK _ φ F H h al hv ha.2 hnt g I e hk
  have run:cS Y.X (dR Y.X (n+1)) (n+1) (.block id c) al H=match ex with
    |.exit j=>Wf (if j=id then .normal else .exit j,DH,H')
    |ex=>Wf (ex,DH,H'):=by
   simp[cS];rw[oD (uP Y.X n) (Z8 n) q1];cases ex<;>rfl
  cases ex
  case exit j=>
   unfold aaR at q2;simp only at q2;split at q2
   .rename_i hb;exact⟨n+1,.normal,DH,H',JT,h',φ',F',xP,q2,q⟩
   .rename_i hb;refine⟨n+1,.exit j,DH,H',JT,h',φ',F',?_,q2,q⟩
    grind[Xs]
  all_goals exact⟨n+1,_,DH,H',JT,h',φ',F',run,q2,q⟩
 | .loop c,a,RK,k,φ,F,H,h,al,hv,ha,hnt,g,I,e,hk=>by
  simp[mB]at hv;simp[js,Z7]at ha;simp[den,HJ,Gp]at hk
  have hinv:wi (kJ c) (yQ a.i)=Th:=by
   have:=ha.1;unfold AX at this;unfold yQ;split at this
   .rename_i hi;rw[hi];rfl
   .grind
   .rename_i hi1 hi2;split
    .grind
    .rfl
  have hexs:∀x∈uF a.i,wi (kJ c) x.2.2=Th:=by
   have:=ha.1;unfold AX at this;unfold uF;split at this
   .grind
   .grind
   .simp
  -- what holds at the head of each round
  let P:List V->Hp->Prop:=λl hc=>∀(φc:ax)(Fc:Nat->Prop)(Hc:AH)(alc:au),Inv φc Fc G Hc hc->Stp G φ F H h φc Fc Hc hc->RW alc=RW al->(∀t,t ∉ kJ c->d6 alc t=d6 al t) ->
   (∀j t,(wE a.i)[j]?=Wf t->RV φc Fc Hc hc (ge l j) (d6 alc t)) ->
   ∃n ex DH H' JT h' φ' F',cS Y.X (dR Y.X n) n (.loop c) alc Hc=Wf (ex,DH,H')∧k ex JT h'∧Inv φ' F' G H' h'∧Stp G φ F H h φ' F' H' h'∧dF φ' F' H' h' JT DH∧RW DH=RW al∧∀t,t ∉ kJ c->d6 DH t=d6 al t
  have key:P ((wE a.i).map (lk RK)) h:=by
   refine hk P λl hc ⟨q,DB,hq⟩=>?_
   intro φc Fc Hc alc Ic Sc Rg hsame hins
   have ec:dF φc Fc Hc hc (pZ (mF RK (yQ a.i)) (wE a.i) 0 l) alc:=by
    refine dF.join (env1:=RK) (λt ht=>?_) hins;rw[hsame t (LK hinv ht)];exact RV.mono Sc.leF Sc.sl _ _ (e t)
   obtain⟨n,ex,al1,H1,env1,h1,φ1,F1,q1,q2,q3,q4,q5,q6,q7⟩:=rr hY hC c a.a _ _ φc Fc Hc hc alc hv ha.2 aa (g.mono Sc.leF) Ic ec DB;have S1:=Sc.trans q4;have same1:∀t,t ∉ kJ c->d6 al1 t=d6 al t:=λt ht=>by rw[q7 t ht,hsame t ht]
   have out:∀vs,ex≠.normal->vs=(De (uF a.i) ex).map (lk env1)->aU ((uF a.i).map λx=>(x.1,λl h=>k x.1 (pZ (mF RK x.2.2) x.2.1 0 l) h)) ex vs h1 ->
     ∃n ex DH H' JT h' φ' F',cS Y.X (dR Y.X n) n (.loop c) alc Hc=Wf (ex,DH,H')∧k ex JT h'∧Inv φ' F' G H' h'∧Stp G φ F H h φ' F' H' h'∧dF φ' F' H' h' JT DH∧RW DH=RW al∧∀t,t ∉ kJ c->d6 DH t=d6 al t:=by
    intro vs MT hvs hx;obtain⟨x,hxm,hx1,hx2,hx3⟩:=XU (f:=λx l h=>k x.1 (pZ (mF RK x.2.2) x.2.1 0 l) h) hx;refine⟨n+1,ex,al1,H1,_,h1,φ1,F1,?_,by rw[<-hx1];omega,q3,S1,dF.join (env1:=env1) (λt ht=>?_) (λj t hj=>?_),aa,same1⟩
    .simp[cS];rw[oD (uP Y.X n) (Z8 n) q1];cases ex<;>first|rfl|trivial
    .rw[same1 t (LK (hexs x hxm) ht)];exact RV.mono S1.leF S1.sl _ _ (e t)
    .rw[hvs,hx2,H8 x.2.1 env1 j t hj];exact q5 t
   cases ex
   case normal=>
    obtain⟨hcl,hP⟩:=hq .normal _ _ q2;simp[clean,Z7]at hcl
    obtain ⟨m,ex,DH,H',JT,h',φ',F',r1,r⟩:=hP φ1 F1 H1 al1 (q3.reset S1.hl hcl.2) (S1.reset _) aa same1 (λj t hj=>by
     rw[H8 (wE a.i) env1 j t hj];refine RV.reset S1.hl _ _ ?_ (q5 t)
     have:∀{l:ax}{j:Nat},fK (Ep a.i) (l.map (lk env1))=Th->l[j]?=Wf t->gZ (Ep a.i) (lk env1 t)=Th:=by
      intro l
      induction l with
      |nil=>simp
      | cons s l ih=>
       grind[fK]
     grind)
    refine⟨max n m+1,ex,DH,H',JT,h',φ',F',?_,r⟩;simp[cS];rw[oD (tj Y.X aa) aa q1];exact oD (tj Y.X aa) aa r1
   case exit j=>exact out _ ac rfl (hq (.exit j) _ _ q2)
   case goto j=>exact out _ ac rfl (hq (.goto j) _ _ q2)
   case ret=>exact out _ ac rfl (hq .ret _ _ q2)
   case panic j=>exact out _ ac rfl (hq (.panic j) _ _ q2)
   all_goals exact out _ ac rfl (hq _ _ _ q2)
  obtain⟨n,ex,DH,H',JT,h',φ',F',r⟩:=key φ F H al I (Stp.refl ..) rfl (λ_ _=>rfl) (λj t hj=>by rw[H8 (wE a.i) RK j t hj];exact e t);exact⟨n,ex,DH,H',JT,h',φ',F',r⟩
 | .rangeFunc g ps x y,a,RK,k,φ,F,H,h,al,hv,ha,hnt,gl,I,e,hk=>by
  simp only[mB,js,Z7,Zz,dT]at hv ha;simp only[den,HJ,Gp]at hk;unfold xY at hk;split at hk
  case h_2=>trivial
  rename_i xs hxs;unfold CH at hxs;split at hxs
  case h_2=>cases hxs
  rename_i gf cs hg;have hgv:=dE gl e hv.1.1.1;rw[hg]at hgv;simp[RV]at hgv;obtain⟨a0,lb,eg,r1,r2⟩:=hgv;simp[aK]at r1;subst r1;obtain⟨Is,hsq⟩:=hY.seq gf cs xs hxs
  have rounds:∀(l:List au),(∀z∈l,z∈xs)->∀(φc:ax)(Fc:Nat->Prop)(Hc:AH)(hc:Hp),Inv φc Fc G Hc hc->Stp G φ F H h φc Fc Hc hc ->
    rg (RW ps.toList) (λl h q=>den Y C x a.a (pZ (mF RK (yQ a.i)) ps.toList 0 l) h λex RK h=>match ex with
     |.normal=>den Y C y a.b RK h λex _ h=>q ex h
     |_=>False) (Ep a.i) h (λex h=>aU ((uF a.i).map λx=>(x.1,λ_ h=>k x.1 (mF RK x.2.2) h)) ex [] h) l hc ->
    ∃n ex H' h' φ' F',jW (λa H=>cS Y.X (dR Y.X n) n x a H) (λa H=>cS Y.X (dR Y.X n) n y a H) (λH'=>Y.X.seq gf lb H'=Wf xs∧Y.X.seqK gf lb H'=Y.X.seqK gf lb H) ps.toList al l Hc=Wf (ex,al,H')∧aU ((uF a.i).map λx=>(x.1,λ_ h=>k x.1 (mF RK x.2.2) h)) ex [] h'∧Inv φ' F' G H' h'∧Stp G φ F H h φ' F' H' h':=by
   intro l
   induction l with
   |nil=>intro _ φc Fc Hc hc Ic Sc hr;exact⟨0,.normal,Hc,hc,φc,Fc,rfl,hr,Ic,Sc⟩
   | cons z l ihl=>
    intro hl φc Fc Hc hc Ic Sc hr;obtain⟨hz,hr⟩:=hr;have hz':RW z=RW ps.toList:=hz;have ec:dF φc Fc Hc hc (mF RK (yQ a.i)) al:=(e.mono Sc.leF Sc.sl).keep _
    obtain ⟨ep,lp⟩:=dF.putP ps.toList 0 (z.map λv=>.d (dL v)) z _ al ec (λj v hj=>by
     have:ge (z.map λv=>V.d (dL v)) (0+j)=.d (dL v):=by
      rw[Zh];clear hr hz hz' hl ec
      induction z generalizing j with
      |nil=>simp at hj
      | cons u z ihz=>
       cases j with
       |zero=>simp[List.getElem?_cons_zero,Z9]at hj;subst hj;rfl
       |succ j=>simp[List.getElem?_cons_succ]at hj;exact ihz j hj
     rw[this];exact Hf (Is z (hl z ac) v (Ya hj))) hz (λt ht=>Z0 (hv.1.1.2 t ht) hnt)
    obtain⟨n,ex,al1,H1,env1,h1,φ1,F1,q1,q2,q3,q4,q5,q6,_⟩:=rr hY hC x a.a _ _ φc Fc Hc hc _ hv.1.2 ha.1 aa (gl.mono Sc.leF) Ic ep hr;cases ex
    case normal=>
     have S1:=Sc.trans q4;obtain⟨m,ex,al2,H2,env2,h2,φ2,F2,p1,p2,p3,p4,_,_,_⟩:=rr hY hC y a.b env1 _ φ1 F1 H1 h1 al1 hv.2 ha.2 aa (gl.mono S1.leF) q3 q5 q2;have S2:=S1.trans p4
     have step:∀N,max n m<=N->jW (λa H=>cS Y.X (dR Y.X N) N x a H) (λa H=>cS Y.X (dR Y.X N) N y a H) (λH'=>Y.X.seq gf lb H'=Wf xs∧Y.X.seqK gf lb H'=Y.X.seqK gf lb H) ps.toList al (z::l) Hc=match ex with
       |.normal=>jW (λa H=>cS Y.X (dR Y.X N) N x a H) (λa H=>cS Y.X (dR Y.X N) N y a H) (λH'=>Y.X.seq gf lb H'=Wf xs∧Y.X.seqK gf lb H'=Y.X.seqK gf lb H) ps.toList al l H2
       |ex=>Wf (ex,al,H2):=by
      intro N hN;simp only[jW,ip hz'];rw[oD (tj Y.X (m:=N) aa) aa q1];simp only;rw[oD (tj Y.X (m:=N) aa) aa p1];cases ex<;>simp only
      rw[ip ⟨(hsq φ2 F2 H2 h2 lb (aK.mono S2.leF S2.sl _ _ r2)).1,(hsq φ F H h lb r2).2 F2 H2 S2.leF⟩]
     cases ex
     case normal=>
      obtain⟨hcl,p2⟩:=p2;obtain⟨M,ex,H',h',φ',F',w1,w2,w3,w4⟩:=ihl (λz' hz'=>hl z' ae) φ2 F2 H2 _ (p3.reset S2.hl hcl) (S2.reset _) p2;refine⟨max (max n m) M,ex,H',h',φ',F',?_,w2,w3,w4⟩;rw[step _ aa];simp only;exact Si (tj Y.X (Nat.le_max_right _ M)) (Nat.le_max_right _ M) w1
     all_goals exact⟨max n m,_,H2,h2,φ2,F2,step _ (Z8 _),p2,p3,S2⟩
    all_goals exact q2.elim
  obtain⟨n,ex,H',h',φ',F',w1,w2,w3,w4⟩:=rounds xs (λ_ hz=>hz) φ F H h I (Stp.refl ..) hk;obtain⟨x0,hxm,hx1,_,hx3⟩:=XU (f:=λx _ h=>k x.1 (mF RK x.2.2) h) w2;refine⟨n+1,ex,al,H',mF RK x0.2.2,h',φ',F',?_,ae,w3,w4,(e.mono w4.leF w4.sl).keep _,rfl,λ_ _=>rfl⟩;simp[cS,eg];rw[(hsq φ F H h lb r2).1];simp only;exact Si (uP Y.X n) (Z8 n) w1
 |.goto _,a,RK,k,φ,F,H,h,al,_,_,_,_,_,_,hk=>by trivial
 |.refuse _,a,RK,k,φ,F,H,h,al,_,_,_,_,_,_,hk=>by trivial
end
def Jh(C R:CC):Prop:=(∀f ds v,C.p f ds v->R.p f ds v)∧∀f args h v h',C.i f args h v h'->R.i f args h v h'
def Up1(Y:eu)(R:CC)(f:fI)(ds:List V)(v:V)(q:V->Hp->Prop):Prop:=
 (∃C:CC,Jh C R∧Y.X.allow f=Th∧(∀asF,Y.X.orc f asF=Vc)∧∃fn m a,Y.X.P.funcs[f]?=Wf fn∧(∀c,fn.body=Wf c->js Y.X.P c a=Th)∧lu Y C fn m a ds q) ∨
 (∃asF w,Y.X.orc f asF=Wf w∧ds=asF.map lit∧v=lit w∧(∀x∈asF,sL x=Th)∧sL w=Th)
def Up2(Y:eu)(R:CC)(f:fI)(args:List V)(h:Hp)(q:V->Hp->Prop):Prop:=
 ∃C:CC,Jh C R∧Y.X.allow f=Th∧(∀asF,Y.X.orc f asF=Vc)∧∃fn m,∃a:Nat->cr,Y.X.P.funcs[f]?=Wf fn∧(∀c,fn.body=Wf c->js Y.X.P c (a (RW h))=Th)∧iB Y C fn m a args h q
def out(v:V):V->Hp->Prop:=λr h=>∃h',bQ h r=Wf (v,h')
def Closed(Y:eu)(R:CC):Prop:=(∀f ds v,Up1 Y R f ds v (out v)->R.p f ds v)∧∀f args h v h',Up2 Y R f args h (fA (RW h) v h')->R.i f args h v h'
def CP(Y:eu):rM:=λf ds v=>∀R:CC,Closed Y R->R.p f ds v
def CI(Y:eu):rL:=λf args h v h'=>∀R:CC,Closed Y R->R.i f args h v h'
def CX(Y:eu):CC:=⟨CP Y,CI Y⟩
theorem CX.sub{Y:eu}{C R:CC}(h:Jh C (CX Y))(hR:Closed Y R):Jh C R:=⟨λf ds v hc=>h.1 f ds v hc R hR,λf args h0 v h' hc=>h.2 f args h0 v h' hc R hR⟩
theorem CP.intro{Y:eu}{f:fI}{fn:Func}{m:Nat}{a:cr}{ds:List V}{v:V}(h1:Y.X.allow f=Th)(h2:∀asF,Y.X.orc f asF=Vc)(h3:Y.X.P.funcs[f]?=Wf fn)(h4:∀c,fn.body=Wf c->js Y.X.P c a=Th)
  (h5:lu Y (CX Y) fn m a ds (out v)):CP Y f ds v:=λR hR=>hR.1 f ds v (.inl ⟨CX Y,CX.sub ⟨λ_ _ _ h=>h,λ_ _ _ _ _ h=>h⟩ hR,h1,h2,fn,m,a,h3,h4,h5⟩)
theorem CP.orc{Y:eu}{f:fI}{asF:au}(h1:Y.X.orc f asF=Wf w)(h2:∀x∈asF,sL x=Th)(h3:sL w=Th):CP Y f (asF.map lit) (lit w):=λR hR=>hR.1 f _ _ (.inr ⟨asF,w,h1,rfl,rfl,h2,h3⟩)
theorem CI.intro{Y:eu}{f:fI}{fn:Func}{m:Nat}{a:Nat->cr}{args:List V}{h:Hp}{v:V}{h':Hp}(h1:Y.X.allow f=Th)(h2:∀asF,Y.X.orc f asF=Vc)(h3:Y.X.P.funcs[f]?=Wf fn)(h4:∀c,fn.body=Wf c->js Y.X.P c (a (RW h))=Th)
  (h5:iB Y (CX Y) fn m a args h (fA (RW h) v h')):CI Y f args h v h':=λR hR=>hR.2 f args h v h' ⟨CX Y,CX.sub ⟨λ_ _ _ h=>h,λ_ _ _ _ _ h=>h⟩ hR,h1,h2,fn,m,a,h3,h4,h5⟩
def okB(P:pG)(fn:Func)(a:cr):Bool:=match fn.body with
 |some c=>js P c a
 |none=>Th
theorem CP.of{Y:eu}{f:fI}{fn:Func}{m:Nat}{a:cr}{ds:List V}{v:V}(h1:Y.X.allow f=Th)(h2:∀asF,Y.X.orc f asF=Vc)(h3:Y.X.P.funcs[f]?=Wf fn)(h4:okB Y.X.P fn a=Th)
  (h5:lu Y (CX Y) fn m a ds (out v)):CP Y f ds v:=
 CP.intro h1 h2 h3 (λc hc=>by grind[okB]) h5
theorem CI.of{Y:eu}{f:fI}{fn:Func}{m:Nat}{a:Nat->cr}{args:List V}{h:Hp}{v:V}{h':Hp}(h1:Y.X.allow f=Th)(h2:∀asF,Y.X.orc f asF=Vc)(h3:Y.X.P.funcs[f]?=Wf fn)(h4:okB Y.X.P fn (a (RW h))=Th)
  (h5:iB Y (CX Y) fn m a args h (fA (RW h) v h')):CI Y f args h v h':=
 CI.intro h1 h2 h3 (λc hc=>by grind[okB]) h5
structure EC(Y:eu):Prop where
 y:tB Y
 fns:∀f fn c,Y.X.allow f=Th->Y.X.P.funcs[f]?=Wf fn->fn.body=Wf c->mB Y fn.ntmps c=Th
section
variable{Y:eu}{φ:ax}{F G:Nat->Prop}{H:AH}{h:Hp}
theorem US{v:vl}(hv:iH v)(hr:RD F H (dL v) w):w=v:=by
 cases v<;>simp only[dL,RD]at hr
 case agg=>grind
 case tuple=>grind
 case string s=>omega
 all_goals first|exact hr|exact hr.1
theorem L8:∀{l ws:au},(∀c∈l,iH c)->aK φ F H h (l.map λc=>.d (dL c)) ws->ws=l
 |[],ws,_,hr=>by trivial
 | v::l,ws,hl,hr=>by
  simp[Zv,aK]at hr;obtain⟨w,us,rfl,r1,r2⟩:=hr;simp[RV]at r1;rw[US (hl v ac) r1,L8 (λc hc=>hl c ae) r2]
theorem ajr{v:vl}(hv:sL v=Th)(hr:RV φ F H h (lit v) w):w=v:=by
 cases v<;>simp only[lit,sL]at hv hr
 case agg cs=>
  obtain⟨l⟩:=cs
  grind[RV,L8,iH]
 case tuple cs=>
  obtain⟨l⟩:=cs
  grind[RV,L8,iH]
 all_goals(simp[RV]at hr;exact US ⟨hv,rfl⟩ hr)
theorem UO:∀{l ws:au},(∀c∈l,sL c=Th)->aK φ F H h (l.map lit) ws->ws=l
 |[],ws,_,hr=>by trivial
 | v::l,ws,hl,hr=>by
  simp[Zv,aK]at hr;obtain⟨w,us,rfl,r1,r2⟩:=hr;rw[ajr (hl v ac) r1,UO (λc hc=>hl c ae) r2]
theorem L6:∀(l:List V)(i t:Nat),lk (tA i l) t=if i<=t then ge l (t-i)else .junk
 |[],i,t=>by simp only[tA,lk];split<;>first|rfl|(cases t-i<;>rfl)
 | x::l,i,t=>by
  show lk ((i,x)::tA (i+1) l) t=_
  rw[Bj,L6 l (i+1) t];by_cases hi:t=i
  .simp_all[ge]
  .rw[iN hi];by_cases hl:i<=t
   .rw[ip hl,ip aa];obtain⟨d,hd⟩:∃d,t-i=d+1:=⟨t-i-1,aa⟩;rw[hd,show t-(i+1)=d by omega];rfl
   .rw[iN hl,iN aa]
theorem WS{l:List V}(hr:aK φ F H h l ws)(t:Nat):ge l t=.junk∨∃w,ws[t]?=Wf w∧RV φ F H h (ge l t) w:=by
 induction l generalizing ws t with
 |nil=>exact .inl rfl
 | cons x l ih=>
  simp[aK]at hr;obtain⟨w,us,rfl,r1,r2⟩:=hr;cases t with
  |zero=>exact .inr ⟨w,rfl,r1⟩
  |succ t=>exact ih r2 t
theorem agW(hY:tB Y)(I:Inv φ F G H h)(e:dF φ F H h RK a){r:ResultVar}(hv:vT Y RK h r=Wf v):∃w,sr Y.X.P H a r=Wf w∧RV φ F H h v w:=by
 have hg:∀t,a.getD t undef=d6 a t:=λt=>(qm a t).symm
 cases r with
 |tmp t=>simp[vT,Z9]at hv;subst hv;exact⟨_,rfl,by rw[hg];exact e t⟩
 | cell x t=>
  simp[vT]at hv;simp only[sr,hg];have T:=hY.ty t;split at hv
  .rename_i hag
   have hu:(∃gs,Y.X.P.underlying t=Wf (.struct gs))∨∃k e,Y.X.P.underlying t=Wf (.array k e):=by
    have hkd:=T.kind
    revert hkd hag
    cases(Y.ty t).k<;>simp only[sR]<;>intro hag hkd<;>try cases hag
    .grind
    .grind
   exact UE I hu (T.sz (by intro e;rw[e]at hag;cases hag)) hv (e x)
  .rename_i hag
   have hu:∃d,Y.X.P.underlying t=Wf d∧(∀gs,d≠.struct gs)∧∀n e,d≠.array n e:=by
    have hkd:=T.kind
    revert hkd hag
    cases(Y.ty t).k<;>simp only[sR]<;>intro hag hkd<;>(try cases hag)
    all_goals first
     |exact⟨_,hkd,λ_=>by simp,λ_ _=>by simp⟩
     |(obtain⟨_,hkd⟩:=hkd;exact⟨_,hkd,λ_=>by simp,λ_ _=>by simp⟩)
     |(obtain⟨_,_,_,hkd⟩:=hkd;exact⟨_,hkd,λ_=>by simp,λ_ _=>by simp⟩)
   obtain⟨d,hd,h1,h2⟩:=hu;exact UF I hd h1 h2 hv (e x)
  trivial
theorem K2(hY:tB Y)(I:Inv φ F G H h){RK:Env}{a:au}(e:dF φ F H h RK a):∀{rs:List ResultVar}{q:List V->Prop},xZ (rs.map (vT Y RK h)) q->∃l ws,q l∧rs.mapM (sr Y.X.P H a)=Wf ws∧aK φ F H h l ws
 |[],q,hq=>⟨[],[],hq,rfl,aM⟩
 | r::rs,q,hq=>by
  simp[Zv,xZ]at hq;unfold bnd at hq;split at hq
  .rename_i v hv;obtain⟨w,hw,hr⟩:=agW hY I e hv;obtain⟨l,ws,h1,h2,h3⟩:=K2 hY I e hq;refine⟨v::l,w::ws,h1,?_,?_⟩
   .simp_all
   grind[aK]
  trivial
theorem amc(hV:EC Y){C:CC}(hC:Cn Y C){f:fI}{fn:Func}{m:Nat}{a:cr}{ds:List V}{v:V}(ha:Y.X.allow f=Th)(ho:∀asF,Y.X.orc f asF=Vc)(hf:Y.X.P.funcs[f]?=Wf fn)
  (Is:∀c,fn.body=Wf c->js Y.X.P c a=Th) (hd:lu Y C fn m a ds (out v)):Cm Y f ds v:=by
 intro F H args wf hF g hargs;unfold lu at hd;split at hd
 .rename_i c hc
  let h0:Hp:=So m (0,.none)
  have hnone:∀(i e:Nat)(b:Bk),h0[i]?=Wf (e,b)->b=Bk.none:=λi e b hi=>by
   grind
  have I0:Inv (So m 0) F (λc=>c<H.n) H h0:=by
   refine⟨ae,?_,?_,λc hc=>(hF c hc).2,?_,?_,?_,wf⟩
   .intro i e b hi;rw[hnone i e b hi];trivial
   .grind
   .intro i e b hi hob;rw[hnone i e b hi]at hob;trivial
   .intro i e b j e' b' hi hob;rw[hnone i e b hi]at hob;trivial
   .intro c x g y hx _ hc;simp_all[AH.get_lt]
  let al:=args++So (fn.ntmps-RW args) undef
  have Rg:fn.ntmps<=RW al:=by simp[al];omega
  have e0:dF (So m 0) F H h0 (tA 0 ds) al:=by
   intro t;rw[L6,ip (Zb _),Nat.sub_zero];rcases WS (hargs (So m 0) h0) t with hj|⟨w,hw,hr⟩
   .grind[RV]
   ·have:d6 al t=w:=by
     rw[qm,Z6,List.getElem?_append_left (gD hw),hw];rfl
    grind
  obtain⟨n,ex,DH,H',JT,h',φ',F',q1,q2,q3,q4,q5,_,_⟩:=rr hV.y hC (nt:=fn.ntmps) c a (tA 0 ds) _ _ F H h0 al (hV.fns f fn c ha hf hc) (Is c hc) Rg g I0 e0 hd
  have fin:(ex=.normal∨ex=.ret)->xZ (fn.results.toList.map (vT Y JT h')) (λl=>out v (qD l) h') ->
    ∃n w H2 F2,dR Y.X n f args H=Wf (w,H2)∧H.n<=H2.n∧WF H2∧(∀c,c<H.n->H2.get c=H.get c)∧(∀c,F c->F2 c)∧(∀c,F2 c->F c∨H.n<=c) ∧
    (∀c,F2 c->c<H2.n∧∃x,H2.get c=Wf x∧x.st=1) ∧
    (∀c x,H.n<=c->H2.get c=Wf x->x.st≠0->∀g y,g<H.n->H.get g=Wf y->y.st≠0->x.fam≠y.fam)∧(∀r,r<H.n->jf H r->jf H2 r) ∧
    ∀φ0 h0,RV φ0 F2 H2 h0 v w:=by
   intro hex hr;obtain⟨l,ws,⟨h2,hsn⟩,hm,hrs⟩:=K2 hV.y q3 q5 hr
   obtain ⟨w,hw,hrw⟩:∃w,vS Y.X.P fn DH H'=Wf w∧RV φ' F' H' h' (qD l) w:=by
    unfold vS;rw[hm]
    match l,ws,hrs with
    | [],_,hrs=>
     simp_all[aK,qD,RV]
    | [x],_,hrs=>
     simp only[aK]at hrs;obtain⟨y,us,rfl,r1,rfl⟩:=hrs;exact⟨y,rfl,r1⟩
    | x::y::l,_,hrs=>
     have hrs2:=hrs;simp[aK]at hrs;obtain⟨u,us,rfl,_,u2,us2,rfl,_⟩:=hrs
     grind[qD,RV]
   obtain⟨F2,S2,r2⟩:=Ka q3 hsn hrw;have St:=q4.trans S2.2;refine⟨n+1,w,H',F2,?_,St.n,S2.1.wf,λc hc=>St.keep c (.inr hc),St.fm,λc hc=>?_,λc hc=>⟨S2.1.lt c (.inl hc),S2.1.fb c hc⟩,?_,λr hr=>St.nokin r hr,r2⟩
   .grind[dR]
   .rcases St.fn c hc with hc|hc
    .grind
    .exact .inr aa
   .intro c x hc hx h0 g y hg hy hy0;exact S2.1.sep c x g y hx h0 aa hg (by grind[Stp.keep]) hy0
  cases ex
  case normal=>exact fin (.inl rfl) q2
  case ret=>exact fin (.inr rfl) q2
  all_goals exact q2.elim
 trivial
mutual
theorem RV.take{b:Nat}:∀(x:V)(v:vl),under b x=Th->RV φ F H h x v->RV (φ.take b) F H (h.take b) x v
 |.junk,_,_,_=>by trivial
 |.d x,v,_,hv=>by trivial
 | .ref s e off len cap tot,v,ho,hv=>by
  have hs:s<b:=by simp only[under]at ho;rw[Wn]at ho;exact ho
  have h1:(h.take b)[s]?=h[s]?:=List.getElem?_take_of_lt hs;have h2:(φ.take b).getD s 0=φ.getD s 0:=by rw[Z6,Z6,List.getElem?_take_of_lt hs]
  grind[RV,ep,aH]
 | .ptr s e off tot,v,ho,hv=>by
  have hs:s<b:=by simp only[under]at ho;rw[Wn]at ho;exact ho
  have h1:(h.take b)[s]?=h[s]?:=List.getElem?_take_of_lt hs;have h2:(φ.take b).getD s 0=φ.getD s 0:=by rw[Z6,Z6,List.getElem?_take_of_lt hs]
  grind[RV,ep,aH]
 |.dptr cs pos,v,_,hv=>by trivial
 |.cut n,v,_,hv=>by trivial
 | .agg l,v,ho,hv=>by
  simp[under]at ho;simp[RV]at hv ⊢;obtain⟨ws,e,r⟩:=hv;exact⟨ws,e,aK.takeH l ws ho r⟩
 | .tup l,v,ho,hv=>by
  simp[under]at ho;simp[RV]at hv ⊢;obtain⟨ws,e,r⟩:=hv;exact⟨ws,e,aK.takeH l ws ho r⟩
 | .fn g fs cs,v,ho,hv=>by
  simp[under,Z7]at ho;simp[RV]at hv ⊢;obtain⟨a,b,e,r,q⟩:=hv;exact⟨a,b,e,aK.takeH fs a ho.1 r,aK.takeH cs b ho.2 q⟩
 | .ifc t x,v,ho,hv=>by
  simp[under]at ho;simp[RV]at hv ⊢;obtain⟨w,e,r⟩:=hv;exact⟨w,e,RV.take x w ho r⟩
 |.new ..,v,_,hv=>by trivial
theorem aK.takeH{b:Nat}:∀(xs:List V)(vs:au),jI b xs=Th->aK φ F H h xs vs->aK (φ.take b) F H (h.take b) xs vs
 |[],vs,_,hv=>by trivial
 | x::xs,vs,ho,hv=>by
  simp[jI,Z7]at ho;simp[aK]at hv ⊢;obtain⟨v,us,e,h1,h2⟩:=hv;exact⟨v,us,e,RV.take x v ho.1 h1,aK.takeH xs us ho.2 h2⟩
end
theorem Inv.takeH(I:Inv φ F G H h){b:Nat}(hu:((h.take b).all λx=>cj b x.2)=Th):Inv (φ.take b) F G H (h.take b):=by
 have hg:∀{i e k},(h.take b)[i]?=Wf (e,k)->i<b∧h[i]?=Wf (e,k):=λ{i e k} hi=>by
  have PJ:i<b:=by
   have:=gD hi;rw[Zp]at this;omega
  grind
 have hf:∀{i},i<b->(φ.take b).getD i 0=φ.getD i 0:=λ{i} hi=>by rw[Z6,Z6,List.getElem?_take_of_lt hi]
 refine⟨by rw[Zp,Zp,I.len],?_,I.lt,I.fb,?_,?_,I.sep,I.wf⟩
 .intro i e k hi;obtain⟨PJ,hi2⟩:=hg hi;rw[hf PJ];have:=I.blk i e k hi2;cases k with
  |none=>trivial
  | vars cs=>
   obtain⟨x,hx,h1,h2,h2e,h3⟩:=this;have hub:=Zz.1 hu (e,.vars cs) (Ya hi);exact⟨x,hx,h1,h2,h2e,aK.takeH _ _ hub h3⟩
  |data n cs ex fr=>exact this
 .intro i e k hi ho;obtain⟨PJ,hi2⟩:=hg hi;rw[hf PJ];exact I.priv i e k hi2 ho
 .intro i e k j e' k' hi ho hj ho' hij;obtain⟨PJ,hi2⟩:=hg hi;obtain⟨hlt',hj2⟩:=hg hj;rw[hf PJ,hf hlt'];exact I.inj i e k j e' k' hi2 ho hj2 ho' hij
theorem ame(hV:EC Y){C:CC}(hC:Cn Y C){f:fI}{fn:Func}{m:Nat}{a:Nat->cr}{args:List V}{h h2:Hp}{v:V}(ha:Y.X.allow f=Th)(ho:∀asF,Y.X.orc f asF=Vc)(hf:Y.X.P.funcs[f]?=Wf fn)
  (Is:∀c,fn.body=Wf c->js Y.X.P c (a (RW h))=Th) (hd:iB Y C fn m a args h (fA (RW h) v h2)):EI Y f args h v h2:=by
 intro φ F G H ws I g hargs;unfold iB at hd;split at hd
 .rename_i c hc
  let h0:Hp:=h++So m (0,.none)
  let φ0:ax:=φ++So m 0
  have hnew:∀{i e k},h0[i]?=Wf (e,k)->(i<RW h∧h[i]?=Wf (e,k))∨(RW h<=i∧e=0∧k=Bk.none):=λ{i e k} hi=>by
   grind
  have hφ:∀{i},i<RW h->φ0.getD i 0=φ.getD i 0:=λ{i} hi=>by
   rw[Z6,Z6,List.getElem?_append_left (by grind[Inv.len])]
  have hsl:fw φ h φ0 h0:=by
   intro s;rcases Zi s (RW h) with PJ|hge
   .grind[ep,aH]
   .have e1:h[s]?=Vc:=List.getElem?_eq_none hge;cases h2:h0[s]? with
    |none=>grind[ep,aH]
    | some p=>
     obtain⟨e,k⟩:=p;rcases hnew h2 with⟨PJ,_⟩|⟨_,rfl,rfl⟩
     .omega
     grind[ep,aH]
  have Fm:gK F F H H:=⟨λ_ hc=>hc,λ_ _=>rfl,λc x hx h0=>⟨x,hx,h0⟩⟩
  have I0:Inv φ0 F G H h0:=by
   refine⟨by grind[Inv.len],?_,I.lt,I.fb,?_,?_,I.sep,I.wf⟩
   .intro i e k hi;rcases hnew hi with⟨PJ,hi2⟩|⟨_,_,rfl⟩
    .grind[RB.mono,Inv.blk]
    .trivial
   .intro i e k hi hob;rcases hnew hi with⟨PJ,hi2⟩|⟨_,_,rfl⟩
    .rw[hφ PJ];exact I.priv i e k hi2 hob
    trivial
   .intro i e k j e' k' hi hob hj hob' hij;rcases hnew hi with⟨PJ,hi2⟩|⟨_,_,rfl⟩
    .rcases hnew hj with⟨hlt',hj2⟩|⟨_,_,rfl⟩
     .rw[hφ PJ,hφ hlt'];exact I.inj i e k j e' k' hi2 hob hj2 hob' hij
     trivial
    trivial
  have S0:Stp G φ F H h φ F H h:=Stp.refl ..
  let al:=ws++So (fn.ntmps-RW ws) undef
  have Rg:fn.ntmps<=RW al:=by simp[al];omega
  have e0:dF φ0 F H h0 (tA 0 args) al:=by
   intro t;rw[L6,ip (Zb _),Nat.sub_zero];rcases WS (aK.mono Fm hsl _ _ hargs) t with hj|⟨w,hw,hr⟩
   .grind[RV]
   ·have:d6 al t=w:=by
     rw[qm,Z6,List.getElem?_append_left (gD hw),hw];rfl
    grind
  obtain⟨n,ex,DH,H',JT,h',φ',F',q1,q2,q3,q4,q5,_,_⟩:=rr hV.y hC (nt:=fn.ntmps) c (a (RW h)) (tA 0 args) _ φ0 F H h0 al (hV.fns f fn c ha hf hc) (Is c hc) Rg g I0 e0 hd;have hb:RW h<=h'.length:=by rw[q4.hl];simp[h0]
  have fin:(ex=.normal∨ex=.ret)->xZ (fn.results.toList.map (vT Y JT h')) (λl=>fA (RW h) v h2 (qD l) h') ->
    ∃n w H2 φ2 F2,dR Y.X n f ws H=Wf (w,H2)∧Inv φ2 F2 G H2 h2∧Stp G φ F H h φ2 F2 H2 h2∧EE φ2 F2 G H2 h2 v w:=by
   intro hex hr;obtain⟨l,us,⟨rfl,hu,hres⟩,hm,hrs⟩:=K2 hV.y q3 q5 hr
   obtain ⟨w,hw,hrw⟩:∃w,vS Y.X.P fn DH H'=Wf w∧RV φ' F' H' h' (qD l) w:=by
    unfold vS;rw[hm]
    match l,us,hrs with
    | [],_,hrs=>
     simp_all[aK,qD,RV]
    | [x],_,hrs=>
     simp only[aK]at hrs;obtain⟨y,us,rfl,r1,rfl⟩:=hrs;exact⟨y,rfl,r1⟩
    | x::y::l,_,hrs=>
     have hrs2:=hrs;simp[aK]at hrs;obtain⟨u,us,rfl,_,u2,us2,rfl,_⟩:=hrs
     grind[qD,RV]
   have It:=q3.takeH hu
   have mkSt:∀(F':Nat->Prop)(h':Hp),Stp G φ0 F H h0 φ' F' H' h'->RW h<=h'.length->Stp G φ F H h (φ'.take (RW h)) F' H' (h'.take (RW h)):=λF' h' q4 hb=>by
    refine⟨q4.n,q4.keep,q4.fm,q4.fn,q4.born,q4.nokin,ae,λs=>?_⟩;rcases Zi s (RW h) with PJ|hge
    .obtain⟨a1,a2⟩:=(hsl.trans q4.sl) s;have e1:(h'.take (RW h))[s]?=h'[s]?:=List.getElem?_take_of_lt PJ;have e2:(φ'.take (RW h)).getD s 0=φ'.getD s 0:=by rw[Z6,Z6,List.getElem?_take_of_lt PJ]
     grind[ep,aH]
    .have e1:(h'.take (RW h))[s]?=Vc:=List.getElem?_eq_none ae;have e2:h[s]?=Vc:=List.getElem?_eq_none hge;simp only[ep,aH,e1,e2];exact⟨Z8 _,λ_ q hq=>by cases hq⟩
   have St:=mkSt F' h' q4 hb;have hcall:dR Y.X (n+1) f ws H=Wf (w,H'):=by grind[dR]
   by_cases hrec:SA (RW h) v (qD l) h'
   .obtain⟨s,e,vs,ds,h1,hs,hg,ht,hg1,htk,hv⟩:=hrec
    have prt:∀w0,RV φ' F' H' h' (.ptr s e 0 (RW vs)) w0->∃c F2,w0=.pointer (Wf ⟨c,0,Vc⟩)∧(∀c,F' c->F2 c)∧gK F' F2 H' H'∧Inv (φ'.take (RW h)) F2 G H' (h1.take (RW h))∧Stp G φ F H h (φ'.take (RW h)) F2 H' (h1.take (RW h)) ∧
      Jm (φ'.take (RW h)) F2 G H' (h1.take (RW h)) ds c:=by
     intro w0 hr0;obtain⟨rfl,x,hx,hx1,hwr,hxe,hd⟩:=Gu q3 hr0 hg rfl;obtain⟨F2,⟨I1,S1⟩,rd⟩:=zR q3 ht hd;have hl1:RW h<=h1.length:=by rw[S1.hl];exact hb
     have hsg:=lj ac hg1;refine⟨_,F2,rfl,S1.fm,S1.leF,I1.takeH (by rw[htk];exact hu),mkSt F2 h1 (q4.trans S1) hl1,x,hx,hx1,hwr,rd,hxe,λg hg=>?_,λi e' b hi hob=>?_⟩
     .obtain⟨p1,p2⟩:=I1.priv s e _ hsg trivial g hg
      grind
     ·have PJ:i<RW h:=by
       have:=gD hi;rw[Zp]at this;omega
      have hi2:h1[i]?=Wf (e',b):=by rw[<-List.getElem?_take_of_lt PJ];exact hi
      have e2:(φ'.take (RW h)).getD i 0=φ'.getD i 0:=by rw[Z6,Z6,List.getElem?_take_of_lt PJ]
      rw[e2];obtain⟨p1,p2⟩:=I1.inj i e' b s e _ hi2 hob hsg trivial aa
      grind
    rw[<-htk];rcases hv with⟨hr2,rfl⟩|⟨y,hr2,rfl⟩
    .rw[hr2]at hrw;obtain⟨c,F2,rfl,_,_,i1,s1,ni⟩:=prt _ hrw;exact⟨n+1,_,H',_,F2,hcall,i1,s1,c,rfl,ni⟩
    .rw[hr2]at hrw;simp only[RV,aK]at hrw;obtain⟨_,rfl,w1,_,rfl,r1,w2,_,rfl,r2,rfl⟩:=hrw;obtain⟨c,F2,rfl,_,lf,i1,s1,ni⟩:=prt w1 (by simpa only[RV]using r1);exact⟨n+1,_,H',_,F2,hcall,i1,s1,c,w2,rfl,ni,RD.mono lf _ _ r2⟩
   refine⟨n+1,w,H',_,F',?_,It,St,?_⟩
   .grind[dR]
   ·have newI:∀s e len cap k cs ex2 w,RV φ' F' H' h' (.ref s e 0 len cap (RW (α:=D) cs)) w->RW h<=s->aH h' s e=.data k cs ex2 SM->cY (φ'.take (RW h)) F' G H' (h'.take (RW h)) k cs ex2 len cap w:=by
     intro s e len cap k cs ex2 w hrw hs hg;have hsg:=lj ac hg;obtain⟨rfl,x,hx,h1,hd,hex,hez,hk,_,hwr⟩:=sC q3 hrw hg rfl;have hex:=hex (.inl rfl);refine⟨_,x,rfl,hx,h1,hwr rfl,hd,hex,λe=>(hez e).resolve_left (by rw[hex,e];simp),hk,λg hg=>?_,λi e' b hi hob=>?_⟩
     .obtain⟨p1,p2⟩:=q3.priv s e _ hsg rfl g hg
      grind
     ·have PJ:i<RW h:=by
       have:=gD hi;rw[Zp]at this;omega
      have hi2:h'[i]?=Wf (e',b):=by rw[<-List.getElem?_take_of_lt PJ];exact hi
      have e2:(φ'.take (RW h)).getD i 0=φ'.getD i 0:=by rw[Z6,Z6,List.getElem?_take_of_lt PJ]
      rw[e2];obtain⟨p1,p2⟩:=q3.inj i e' b s e _ hi2 hob hsg rfl aa
      grind
    rcases hres with⟨rfl,hun⟩|⟨rfl,x,h3,ht⟩|⟨s,e,len,cap,k,cs,ex2,hr2,hs,hg,rfl⟩|⟨k,rfl,hr2|⟨s,e,hr2,hs,hg⟩⟩|⟨s,e,len,cap,k,cs,ex2,y,hr2,hs,hg,rfl⟩|hrec'
    .have:=RV.take _ _ hun hrw;unfold EE;split
     .rename_i heq;rw[heq]at hun;cases hun
     .rename_i heq;rw[heq]at hun;cases hun
     .grind[under,jI]
     .grind[under,jI]
     .grind[under,jI]
     omega
    .grind[E3,EE,RV,RD]
    .exact newI _ _ _ _ _ _ _ _ ae hs hg
    .rw[hr2]at hrw;simp[RV,RD]at hrw;exact .inl hrw.1
    .exact .inr (newI s e 0 0 k [] Th _ ae hs hg)
    .rw[hr2]at hrw;simp only[RV,aK]at hrw;obtain⟨_,rfl,w1,_,rfl,r1,w2,_,rfl,r2,rfl⟩:=hrw;exact⟨w1,w2,rfl,newI s e len cap k cs ex2 w1 cU hs hg,r2⟩
    .exact absurd hrec' hrec
  cases ex
  case normal=>grind
  case ret=>grind
  all_goals exact q2.elim
 trivial
theorem aoL(hV:EC Y):Closed Y ⟨Cm Y,EI Y⟩:=by
 constructor
 .intro f ds v hu;rcases hu with⟨C,hC,ha,ho,fn,m,a,hf,Is,hd⟩|⟨asF,w,ho,rfl,rfl,has,hw⟩
  .exact amc hV ⟨hC.1,hC.2⟩ ha ho hf Is hd
  .intro F H args wf hF g hargs;have:args=asF:=UO has (hargs [] []);subst this;refine⟨1,w,H,F,?_,Z8 _,wf,λ_ _=>rfl,λ_ h=>h,λ_ h=>.inl h,hF,?_,λ_ _ h=>h,λφ0 h0=>UR hw⟩
   .grind[dR]
   .intro c x hc hx;have:=AH.get_lt hx;omega
 .intro f args h v h' ⟨C,hC,ha,ho,fn,m,a,hf,Is,hd⟩;exact ame hV ⟨hC.1,hC.2⟩ ha ho hf Is hd
theorem aqr(hV:EC Y){f:fI}{ds:List V}(hc:CP Y f ds v):Cm Y f ds v:=hc _ (aoL hV)
end
abbrev ah:Nat×Bk:=(0,.none)
abbrev aW:D:=.pl (.slice Vc 0 0)
abbrev bF:=List D
abbrev bq:=List V
abbrev bG:=V->Hp->Prop
abbrev I(n:Int):V:=.d (.int .i64 n)
abbrev B(b:Bool):V:=.d (.bool b)
end Go.Vm
