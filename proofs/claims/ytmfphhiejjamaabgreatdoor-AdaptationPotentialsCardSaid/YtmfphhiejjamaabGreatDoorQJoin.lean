/- Lemmas. -/
import Derived.RangeFuncBox
import Derived.Shelf.Abstract
import Derived.WalkKit
import Derived.OwnWalkIn
import Derived.TacticsInMore
import Derived.LoopIn
import Derived.Test.YtmfphhiejjamaabGreatDoorQAbJ
import Derived.ProofKit
import Derived.OpenShut
import Derived.Deep.DeepHandedRow
import Derived.Deep.Matrix
import Derived.Lib.LaidTab
import Derived.Test.YtmfphhiejjamaabGreatDoorTie
import Derived.Test.YtmfphhiejjamaabGreatDoorCards
set_option linter.unusedVariables false
set_option linter.unusedSimpArgs false
namespace Go.Proofs
open Go.RowKit Go.Shelf
attribute [local go_sem] Oper.semAt_some
def aeL(W:World)(B o k c s:Nat):Prop:=∃(a:Option Addr)(cap:Nat),W.cell? ⟨B,o,none⟩=some (.slice a k cap)∧(0<k->a=some ⟨c,s,none⟩)
def ab0(W:World)(B o B2 o2 k c s c2 s2:Nat)(us vs:LvQ):Prop:=
 aeL W B o k c s∧aeL W B2 o2 k c2 s2∧(∀(i:Nat) v,us[i]?=some v->W.cell? ⟨c,s+i,none⟩=some v)∧∀(i:Nat) v,vs[i]?=some v->W.cell? ⟨c2,s2+i,none⟩=some v
set_option maxRecDepth 100000 in
set_option maxHeartbeats 2000000 in
theorem abW(l B o k c s c2 s2:Nat)(us vs:LvQ)(hu:us.length=k)(hv:vs.length=k)(hk:k<4611686018427387904)(J Jx:Nat->World->Prop)
  (hV:∀i W1,J i W1->ab0 W1 B o B (o+1) k c s c2 s2 us vs)
  (hY:∀(i:Nat) x y W1,J i W1->us[i]?=some x->vs[i]?=some y->YieldAt (Go.Am.Fw none) 0 Tryz.prog l #[x,y] W1 fun e W'=>(e=.returned (.bool true)∧J (i+1) W')∨(e=.returned (.bool false)∧Jx (i+1) W'))
  (W:World) (h0:J 0 W) :
  CallsIn (Go.Am.Fw none) 1 Tryz.prog 151 #[.func (.yield l) #[] #[],.pointer (some ⟨B,o,none⟩)] W fun e W'=>(∃v,e=.returned v)∧(J k W'∨∃i,Jx i W'):=by
 refine callsIn_of_wp Tryz.func151 rfl trivial ?_ rfl;simp only[Tryz.ntmps151,List.size_toArray,List.length_cons,List.length_nil,Nat.reduceAdd,Nat.reduceSub,Array.replicate_succ,Array.replicate_zero,List.push_toArray,List.append_toArray,List.nil_append,List.cons_append];obtain⟨⟨a,cap,hc0,ha⟩,_⟩:=hV 0 W h0
 gi_wp2
 gi_loopw [8] (fun i wr=>∃j:Nat,j<=k∧i=.int .i64 j∧J j wr) (fun i _=>k-(intOf i).toNat)
 case atStart=>grind
 case round=>
  obtain⟨j,hj,rfl,hJs⟩:=hrel;by_cases hlt:j<k
  .obtain rfl:=ha aa;have ex:∃x,us[j]?=some x:=⟨_,List.getElem?_eq_getElem aa⟩;have ey:∃y,vs[j]?=some y:=⟨_,List.getElem?_eq_getElem aa⟩;obtain⟨x,hx⟩:=ex;obtain⟨y,hy'⟩:=ey;obtain⟨_,⟨a2,cap2,hc2,ha2⟩,hus,hvs⟩:=hV j wr hJs;obtain rfl:=ha2 aa;have hcx:=hus j x hx;have hcy:=hvs j y hy';obtain⟨fn,tmps,assign,body,hy,hR⟩:=hY j x y wr hJs hx hy'
   clear hx hy' hus hvs
   gi_wp2
   refine hR.mono ?_;rintro e W3 (⟨rfl,hJ3⟩|⟨rfl,hJx3⟩)
   .gi_wp2
    go_roundw
    case rel=>exact⟨j+1,aa,af,hJ3⟩
    case measure=>simp[intOf];omega
   .gi_wp2
    refine bodyPost_ret (results_none rfl _ _ _) rfl ?_;exact⟨⟨_,rfl⟩,.inr ⟨_,hJx3⟩⟩
  .obtain rfl:j=k:=aa
   gi_wp2
   simp_all[bodyPost_end,results_none]
set_option maxRecDepth 100000 in
set_option maxHeartbeats 2000000 in
theorem RE(l B o B2 o2 k c s c2 s2:Nat)(us vs:LvQ)(hu:us.length=k)(hv:vs.length=k)(hk:k<4611686018427387904)(J Jx:Nat->World->Prop)
  (hV:∀i W1,J i W1->ab0 W1 B o B2 o2 k c s c2 s2 us vs)
  (hY:∀(i:Nat) x y W1,J i W1->us[i]?=some x->vs[i]?=some y->YieldAt (Go.Am.Fw none) 0 Tryz.prog l #[x,y] W1 fun e W'=>(e=.returned (.bool true)∧J (i+1) W')∨(e=.returned (.bool false)∧Jx (i+1) W'))
  (W:World) (h0:J 0 W) :
  CallsIn (Go.Am.Fw none) 1 Tryz.prog 132 #[.func (.yield l) #[] #[],.pointer (some ⟨B,o,none⟩),.pointer (some ⟨B2,o2,none⟩)] W fun e W'=>(∃v,e=.returned v)∧(J k W'∨∃i,Jx i W'):=by
 refine callsIn_of_wp Tryz.func132 rfl trivial ?_ rfl;simp only[Tryz.ntmps132,List.size_toArray,List.length_cons,List.length_nil,Nat.reduceAdd,Nat.reduceSub,Array.replicate_succ,Array.replicate_zero,List.push_toArray,List.append_toArray,List.nil_append,List.cons_append];obtain⟨⟨a,cap,hc0,ha⟩,_⟩:=hV 0 W h0
 gi_wp2
 gi_loopw [8] (fun i wr=>∃j:Nat,j<=k∧i=.int .i64 j∧J j wr) (fun i _=>k-(intOf i).toNat)
 case atStart=>grind
 case round=>
  obtain⟨j,hj,rfl,hJs⟩:=hrel;by_cases hlt:j<k
  .obtain rfl:=ha aa;have ex:∃x,us[j]?=some x:=⟨_,List.getElem?_eq_getElem aa⟩;have ey:∃y,vs[j]?=some y:=⟨_,List.getElem?_eq_getElem aa⟩;obtain⟨x,hx⟩:=ex;obtain⟨y,hy'⟩:=ey;obtain⟨_,⟨a2,cap2,hc2,ha2⟩,hus,hvs⟩:=hV j wr hJs;obtain rfl:=ha2 aa;have hcx:=hus j x hx;have hcy:=hvs j y hy';obtain⟨fn,tmps,assign,body,hy,hR⟩:=hY j x y wr hJs hx hy'
   clear hx hy' hus hvs
   gi_wp2
   refine hR.mono ?_;rintro e W3 (⟨rfl,hJ3⟩|⟨rfl,hJx3⟩)
   .gi_wp2
    go_roundw
    case rel=>exact⟨j+1,aa,af,hJ3⟩
    case measure=>simp[intOf];omega
   .gi_wp2
    refine bodyPost_ret (results_none rfl _ _ _) rfl ?_;exact⟨⟨_,rfl⟩,.inr ⟨_,hJx3⟩⟩
  .obtain rfl:j=k:=aa
   gi_wp2
   simp_all[bodyPost_end,results_none]
end Go.Proofs
namespace Go.Vm
open Go Go.Am Go.Proofs
noncomputable section
variable{f:FuncId}{p q v a b:Value}{xs:List LvQ}
theorem If{P:Program}{args:Array Value}{w:World}{R:Ending->World->Prop}(h:CallsIn (Fw none) 1 P f args w R):CallsIn (Fw none) 0 P f args w R:=
 ⟨h.1,fun cs _=>h.2 cs (fun d hd=>by trivial)⟩
def hd1(x:LvQ):Value:=x.headD default
def sd1(x:LvQ):Value:=x.tail.headD default
theorem zip_map:∀(us vs:LvQ),us.length=vs.length->(((us.zip vs).map fun x=>[x.1,x.2]).map hd1)=us∧(((us.zip vs).map fun x=>[x.1,x.2]).map sd1)=vs
 |[],[],_=>⟨rfl,rfl⟩
 | u::us,v::vs,h=>by
  obtain⟨h1,h2⟩:=zip_map us vs (by grind);simp only[List.zip_cons_cons,Z2,h1,h2];trivial
 |[],_::_,h=>by simp at h
 |_::_,[],h=>by simp at h
theorem zy{H:AH}(h:J7 H p q=some xs):nU H 1 p=some (xs.length,xs.map hd1)∧nU H 1 q=some (xs.length,xs.map sd1)∧xs.length<4611686018427387904∧On p=true∧On q=true ∧
  ∀x∈xs,x=[hd1 x,sd1 x]∧plain (hd1 x)=true∧plain (sd1 x)=true:=by
 unfold J7 at h;split at h
 case h_2=>cases h
 rename_i k us k' vs hp hq;split at h
 case isFalse=>cases h
 rename_i hc;obtain⟨h1,h2,h3,h4,h5,h6,h7⟩:=hc;simp only[Z9]at h;subst h;obtain⟨m1,m2⟩:=zip_map us vs aa;have hl:((us.zip vs).map fun x=>[x.1,x.2]).length=k:=by simp;omega
 rw[m1,m2,hl];simp only[Z8]at h5;refine⟨hp,by rw[hq,h1],h4,h5.1,h5.2,fun x hx=>?_⟩;obtain⟨⟨a,b⟩,hab,rfl⟩:=Zc.1 hx;have:=We hab;have e1:=Zv.1 h6 a this.1;have e2:=Zv.1 h7 b this.2;simp only[Z8]at e1 e2;exact⟨rfl,e1.1,e2.1⟩
theorem Dj{X:Cfg}{φ:bG}(hp:On p=true)(hv:av φ p v):∃c s:Nat,∀(φ':bG)(H':AH)(w':World)(k:Nat)(us:LvQ),bn X φ' H' w'->PLe φ φ'->nU H' 1 p=some (k,us)->us.length=k->(∀u∈us,plain u=true) ->
  ∀B o v',w'.cell? ⟨B,o,none⟩=some v'->av φ' p v'->aeL w' B o k c s∧∀(i:Nat) u,us[i]?=some u->w'.cell? ⟨c,s+i,none⟩=some u:=by
 cases p<;>simp only[On]at hp<;>try cases hp
 rename_i a n cap;cases a with
 | none=>
  refine⟨0,0,fun φ' H' w' k us hh _ hs hk _ B o v' hc hv'=>?_⟩;have e:=gZ hv';subst e;cases n with
  | zero=>
   simp only[nU,Z9,Z5]at hs;obtain⟨rfl,rfl⟩:=hs;exact⟨⟨none,cap,hc,fun h=>absurd h aa⟩,fun i u hi=>by simp at hi⟩
  |succ n=>trivial
 | some a=>
  obtain⟨a',c',rfl,hs⟩:=iy hv
  have hpl:a.spot=none∧∃pl,φ a.block=some pl:=by
   rcases hs with⟨h1,_,pl,hp,_⟩|⟨h1,_,_,_,pl,hp⟩
   .grind
   .grind
  obtain⟨hsp,pl,hpl⟩:=hpl;obtain⟨b,off,sp⟩:=a;simp only at hsp hpl;subst hsp;refine⟨pl.c,pl.s+off,fun φ' H' w' k us hh hle hs' hk hpl' B o v' hc hv'=>?_⟩;obtain⟨⟨b2,o2,s2⟩,c2,rfl,hs2⟩:=iy hv';have hpb:=hle _ _ hpl;simp only[nU]at hs';split at hs'
  .rename_i hn;simp only[Z9,Z5]at hs';obtain⟨rfl,rfl⟩:=hs';subst hn;exact⟨⟨_,c2,hc,fun h=>absurd h aa⟩,fun i u hi=>by simp at hi⟩
  .rename_i hn;simp only[Yc,Z3,Z5]at hs';obtain⟨cs,hr,rfl,rfl⟩:=hs';obtain⟨cs',r1,r2,r3,r4⟩:=hh.read hr hpb
   have hb:b2=pl.c∧o2=pl.s+off∧s2=none:=by
    rcases hs2 with⟨_,h2,pl2,hp2,h3,h4,_⟩|⟨_,h0,_⟩
    .grind
    .omega
   obtain⟨rfl,rfl,rfl⟩:=hb;refine⟨⟨_,c2,hc,fun _=>rfl⟩,fun i u hi=>?_⟩
   grind[aB.at,nM,av.of_plain]
theorem Hy{x:LvQ}(h:x=[hd1 x,sd1 x]∧plain (hd1 x)=true∧plain (sd1 x)=true):kW x=true:=by grind[kW]
theorem SO(hpl:∀x∈xs,x=[hd1 x,sd1 x]∧plain (hd1 x)=true∧plain (sd1 x)=true){i:Nat}(ha:(xs.map hd1)[i]?=some a)(hb:(xs.map sd1)[i]?=some b):xs[i]?=some [a,b]:=by grind
theorem VW {fn:Func}(h:Tryz.prog.funcs[f]?=some fn)(hb:fn.body.isNone=false)(hn:(fn.name == "runtime.NumGoroutine")=false):∃fn,X.P.funcs[f]?=some fn∧fn.body.isNone=false∧(fn.name == "runtime.NumGoroutine")=false:=⟨fn,h,hb,hn⟩
set_option maxRecDepth 100000 in
theorem aek:∃fn,X.P.funcs[151]?=some fn∧fn.body.isNone=false∧(fn.name == "runtime.NumGoroutine")=false:=VW Tryz.func151 rfl (by rfl)
set_option maxRecDepth 100000 in
theorem VX:∃fn,X.P.funcs[132]?=some fn∧fn.body.isNone=false∧(fn.name == "runtime.NumGoroutine")=false:=VW Tryz.func132 rfl (by rfl)
theorem afy:QT X:=by
 intro gf lb H xs h0;have h:Ez gf lb H=some xs:=h0;clear h0;unfold Ez at h;split at h
 .rename_i hg;have hg:gf=151:=Zl hg;subst hg;split at h
  case h_2=>cases h
  rename_i b o;split at h
  case h_2=>cases h
  rename_i p q d hrd;obtain⟨s1,s2,s3,s4,s5,hpl⟩:=zy h;refine⟨fun x hx=>Hy (hpl x hx),aek,fun φ w lb' hh hl=>?_⟩;simp only[aB]at hl;obtain⟨v',r,rfl,hv',rfl⟩:=hl;obtain⟨pl,hpb,rfl⟩:=qB hv';obtain⟨cs',r1,r2,r3,r4⟩:=hh.read hrd hpb;simp only[aB]at r1;obtain⟨p',_,rfl,hp',q',_,rfl,hq',d',_,rfl,hd',rfl⟩:=r1;obtain⟨c,s,base⟩:=Dj (X:=X) s4 hp'
  obtain⟨c2,s2',MY⟩:=Dj (X:=X) s5 hq';refine⟨fun W=>ab0 W pl.c (pl.s+o) pl.c (pl.s+o+1) xs.length c s c2 s2' (xs.map hd1) (xs.map sd1),fun φ' H' w' hh' hle hl' hs hk=>?_,fun l J Jx W hV hY h0=>?_⟩
  .have hk:(bF H' b o 3).getD []=(bF H b o 3).getD []:=hk;have hs:Ez 151 [.pointer (some ⟨b,o,none⟩)] H'=some xs:=hs;rw[hrd]at hk
   have hrd':bF H' b o 3=some [p,q,d]:=by
    cases hr:bF H' b o 3 with
    |none=>grind
    |some cs=>grind
   have hz:J7 H' p q=some xs:=by
    unfold Ez at hs;rw[show Nat.beq 151 F.dK=true from rfl]at hs;simp only[hrd']at hs;exact hs
   obtain⟨t1,t2,_⟩:=zy hz;obtain⟨ds',u1,u2,u3,u4⟩:=hh'.read hrd' (hle _ _ hpb);simp only[aB]at u1;obtain⟨p2,_,rfl,hp2,q2,_,rfl,hq2,d2,_,rfl,hd2,rfl⟩:=u1;have k0:=u4 0 p2 rfl;have k1:=u4 1 q2 rfl;rw[nM]at k0 k1;obtain⟨w1,w2⟩:=base φ' H' w' _ _ hh' hle t1 af (fun u hu=>by grind) _ _ _ k0 hp2
   obtain⟨w3,w4⟩:=MY φ' H' w' _ _ hh' hle t2 af (fun u hu=>by grind) _ _ _ k1 hq2;trivial
  .exact If (abW l pl.c (pl.s+o) xs.length c s c2 s2' (xs.map hd1) (xs.map sd1) af af s3 J Jx hV (fun i x y W1 hJ hx hy=>hY i [x,y] W1 hJ (SO hpl hx hy)) W h0)
 .split at h
  case h_2=>cases h
  rename_i hg;have hg:gf=132:=Zl hg;subst hg;split at h
  case h_2=>cases h
  rename_i b o b2 o2;split at h
  case h_2=>cases h
  rename_i p q hrd hrd2;obtain⟨s1,s2,s3,s4,s5,hpl⟩:=zy h;refine⟨fun x hx=>Hy (hpl x hx),VX,fun φ w lb' hh hl=>?_⟩;simp only[aB]at hl;obtain⟨v',r,rfl,hv',v2',r2',rfl,hv2',rfl⟩:=hl;obtain⟨pl,hpb,rfl⟩:=qB hv';obtain⟨pl2,hpb2,rfl⟩:=qB hv2';obtain⟨cs',r1,r2,r3,r4⟩:=hh.read hrd hpb;simp only[aB]at r1;obtain⟨p',_,rfl,hp',rfl⟩:=r1
  obtain⟨cs2',e1,e2,e3,e4⟩:=hh.read hrd2 hpb2;simp only[aB]at e1;obtain⟨q',_,rfl,hq',rfl⟩:=e1;obtain⟨c,s,base⟩:=Dj (X:=X) s4 hp';obtain⟨c2,s2',MY⟩:=Dj (X:=X) s5 hq';refine⟨fun W=>ab0 W pl.c (pl.s+o) pl2.c (pl2.s+o2) xs.length c s c2 s2' (xs.map hd1) (xs.map sd1),fun φ' H' w' hh' hle hl' hs hk=>?_,fun l J Jx W hV hY h0=>?_⟩
  .have hk:(bF H' b o 1).getD []++(bF H' b2 o2 1).getD []=(bF H b o 1).getD []++(bF H b2 o2 1).getD []:=hk;have hs:Ez 132 [.pointer (some ⟨b,o,none⟩),.pointer (some ⟨b2,o2,none⟩)] H'=some xs:=hs;rw[hrd,hrd2]at hk
   have hz:bF H' b o 1=some [p]∧bF H' b2 o2 1=some [q]∧J7 H' p q=some xs:=by
    unfold Ez at hs;rw[show Nat.beq 132 F.dK=false from rfl,show Nat.beq 132 F.nD=true from rfl]at hs;simp only at hs;split at hs
    case h_2=>cases hs
    rename_i p0 q0 g1 g2;rw[g1,g2]at hk;simp only[Option.getD_some,List.cons_append,List.nil_append,List.cons.injEq,and_true]at hk;obtain⟨rfl,rfl⟩:=hk;exact⟨g1,g2,hs⟩
   obtain⟨hrd',hrd2',hz⟩:=hz;obtain⟨t1,t2,_⟩:=zy hz;obtain⟨ds',u1,u2,u3,u4⟩:=hh'.read hrd' (hle _ _ hpb);simp only[aB]at u1;obtain⟨p2,_,rfl,hp2,rfl⟩:=u1;obtain⟨ds2',x1,x2,x3,x4⟩:=hh'.read hrd2' (hle _ _ hpb2);simp only[aB]at x1;obtain⟨q2,_,rfl,hq2,rfl⟩:=x1;have k0:=u4 0 p2 rfl;have k1:=x4 0 q2 rfl;rw[nM]at k0 k1
   obtain⟨w1,w2⟩:=base φ' H' w' _ _ hh' hle t1 af (fun u hu=>by grind) _ _ _ k0 hp2;obtain⟨w3,w4⟩:=MY φ' H' w' _ _ hh' hle t2 af (fun u hu=>by grind) _ _ _ k1 hq2;trivial
  .exact If (RE l pl.c (pl.s+o) pl2.c (pl2.s+o2) xs.length c s c2 s2' (xs.map hd1) (xs.map sd1) af af s3 J Jx hV (fun i x y W1 hJ hx hy=>hY i [x,y] W1 hJ (SO hpl hx hy)) W h0)
end
end Go.Vm
set_option maxRecDepth 100000
namespace Go.Vm
open Go Go.Am
variable{f:FuncId}{a:Addr}{vs:LvQ}{n m fuel o:Nat}{ds:LdQ}{t:TypeId}{k:IntKind}
theorem aei:(List.range X.P.funcs.size).all (fun f=>!X.allow f||match X.P.funcs[f]? with
  |some fn=>aaC X.P fn&&(match fn.body with|some c=>jZ Y fn.ntmps c|none=>true)
  |none=>true)=true:=bb
theorem acD{fn:Func}(ha:X.allow f=true)(hf:X.P.funcs[f]?=some fn):aaC X.P fn=true∧(match fn.body with|some c=>jZ Y fn.ntmps c|none=>true)=true:=by
 have hlt:f<X.P.funcs.size:=by
  rcases Zi f X.P.funcs.size with h|h
  .exact h
  .rw[Array.getElem?_eq_none h]at hf;cases hf
 have:=Zv.1 aei f (X6.2 hlt);rw[ha,hf]at this;simpa using this
theorem vOk:VOk Y where
 y:=yOk
 fns f fn c ha hf hc:=by have:=(acD ha hf).2;rw[hc]at this;exact this
theorem adV:OW X where
 mixed:=by rfl
 fns f fn ha hf:=(acD ha hf).1
 orc:=afG
 seq:=afy
mutual
def WD(w:World):D->Value->Prop
 |.int k n,v=>v=.int k n
 |.bool b,v=>v=.bool b
 |.str s,v=>v=.string ⟨⟨s⟩⟩
 |.pl u,v=>v=u∧plain u=true∧okCell u=true
 | .sl len cells,v=>(len=0∧cells=[]∧(v=.slice none 0 0∨∃a,v=.slice (some a) 0 0)) ∨
   ∃ c o cap n cs e fz,v=.slice (some ⟨c,o,none⟩) len cap∧len<=cap∧0<n∧cells.length=len*n ∧
    w.heap[c]?=some (.cells cs e fz)∧o+cells.length<=cs.size∧WDs w cells ((cs.toList.drop o).take cells.length)
def WDs(w:World):LdQ->LvQ->Prop
 |[],l=>l=[]
 |x::xs,l=>∃v vs,l=v::vs∧WD w x v∧WDs w xs vs
end
structure Ly(w:World)(φ:bG)(F:Nat->Prop)(H:AH):Prop where
 rel:bn X φ H w
 wf:WF H
 fr:∀c,F c->c<H.n∧∃x,H.get c=some x∧x.st=1
 ro:∀c x,H.get c=some x->x.wr=false
 top:∀b p,φ b=some p->b<H.n
 pg:∃p,φ od=some p
structure uS(φ:bG)(F:Nat->Prop)(H:AH)(φ':bG)(F':Nat->Prop)(H':AH):Prop where
 n:H.n<=H'.n
 le:PLe φ φ'
 fm:∀c,F c->F' c
 keep:∀c,c<H.n->H'.get c=H.get c
theorem uS.refl(φ:bG)(F:Nat->Prop)(H:AH):uS φ F H φ F H:=⟨Z7 _,PLe.refl _,fun _ h=>h,fun _ _=>rfl⟩
theorem uS.trans{φ φ1 φ2:bG}{F F1 F2:Nat->Prop}{H H1 H2:AH}(a:uS φ F H φ1 F1 H1)(b:uS φ1 F1 H1 φ2 F2 H2):uS φ F H φ2 F2 H2:=
 ⟨Zu a.n b.n,a.le.trans b.le,fun c h=>b.fm c (a.fm c h),fun c h=>by rw[b.keep c (Z1 h a.n),a.keep c h]⟩
theorem uS.leF{φ φ':bG}{F F':Nat->Prop}{H H':AH}{w:World}(L:Ly w φ F H)(a:uS φ F H φ' F' H'):LeF F F' H H':=
 ⟨a.fm,fun c hc=>a.keep c (L.fr c hc).1,fun c x hx h0=>⟨x,by grind[keep,AH.get_lt],h0⟩⟩
def roB(b n:Nat)(cells:LvQ):Blk:={cells,st:=1,wr:=false,fam:=b,start:=0,shared:=false,exact:=true,esz:=n,ver:=1}
theorem Ly.push{w:World}{φ:bG}{F:Nat->Prop}{H:AH}(L:Ly w φ F H){c o n:Nat}{us vs:LvQ}{cs:Array Value}{e:TypeId}{fz:Nat×Nat}(hh:w.heap[c]?=some (.cells cs e fz))
  (hlen:us.length=vs.length) (ho:o+us.length<=cs.size) (hvs:vs=(cs.toList.drop o).take us.length) (hr:aB φ us vs) :
  Ly w (zj φ H.n ⟨c,o,us.length,n,cs.size,true⟩) (fun x=>F x∨x=H.n) (H.push (roB H.n n us)) ∧
  uS φ F H (zj φ H.n ⟨c,o,us.length,n,cs.size,true⟩) (fun x=>F x∨x=H.n) (H.push (roB H.n n us)):=by
 have hnone:φ H.n=none:=by
  cases hq:φ H.n with
  |none=>rfl
  |some p=>have:=L.top _ p hq;omega
 have hle:PLe φ (zj φ H.n ⟨c,o,us.length,n,cs.size,true⟩):=PLe.add hnone;have hn:(H.push (roB H.n n us)).n=H.n+1:=rfl;have old:∀b,b<H.n->(H.push (roB H.n n us)).get b=H.get b:=fun b hb=>AH.get_push aa
 have new:(H.push (roB H.n n us)).get H.n=some (roB H.n n us):=AH.get_push_new H _
 have ro:∀b x,(H.push (roB H.n n us)).get b=some x->x.wr=false:=fun b x hx=>by
  rcases Zi b H.n with h|h
  .grind[ro]
  .have hb:b=H.n:=by have:=AH.get_lt hx;omega
   subst hb;rw[new]at hx;cases hx;rfl
 refine ⟨⟨⟨fun g hg=>?_,fun b p hp=>?_,fun b p x i v hp hx h1 hv=>?_,fun b p x i hp hx h1 hi=>?_,fun b b' p p' x x' _ _ hx hx' _ _ _ _=>.inl ⟨ro b x hx,ro b' x' hx'⟩⟩,?_,fun b hb=>?_,ro,fun b p hp=>?_,L.pg.imp fun p hp=>hle _ p hp⟩,
  ⟨aa,hle,fun x h=>.inl h,old⟩⟩
 .obtain⟨p,hp,h1⟩:=L.rel.glob g hg;exact⟨p,hle g p hp,h1⟩
 .by_cases hb:b=H.n
  .subst hb;rw[dU]at hp;cases hp;exact⟨_,cs,e,fz,new,by simp[roB],rfl,rfl,rfl,hh,rfl,ho⟩
  .rw[fW hb]at hp;obtain⟨x,r⟩:=L.rel.dom b p hp
   grind[top]
 .by_cases hb:b=H.n
  .subst hb;rw[dU]at hp;cases hp;rw[new]at hx;cases hx;obtain⟨v',h1,h2⟩:=hr.at (i:=i) hv
   grind[av.mono,cell_of_heap]
  .rw[fW hb]at hp;rw[old b (L.top b p hp)]at hx;obtain⟨v',h2,h3⟩:=L.rel.cell b p x i v hp hx h1 hv
   grind[av.mono]
 .grind
 .refine⟨by simp[AH.push,L.wf.len],fun b x hx=>?_⟩;rcases Zi b H.n with h|h
  .rw[old b h]at hx;exact L.wf.fam b x hx
  .have hb:b=H.n:=by have:=AH.get_lt hx;omega
   subst hb;rw[new]at hx;cases hx;trivial
 .rcases hb with hb|rfl
  .obtain⟨h1,x,h2,h3⟩:=L.fr b hb;exact⟨aa,x,by grind,h3⟩
  .exact⟨aa,_,new,rfl⟩
 .by_cases hb:b=H.n
  .omega
  .rw[fW hb]at hp;have:=L.top b p hp;omega
mutual
theorem lay{w:World}:∀(d:D)(v:Value){φ:bG}{F:Nat->Prop}{H:AH},Ly w φ F H->WD w d v ->
  ∃φ' F' H' u,Ly w φ' F' H'∧uS φ F H φ' F' H'∧av φ' u v∧RD F' H' d u
 |.int k n,v,φ,F,H,L,h=>⟨φ,F,H,v,L,uS.refl ..,by simp only[WD]at h;subst h;rfl,h⟩
 |.bool b,v,φ,F,H,L,h=>⟨φ,F,H,v,L,uS.refl ..,by simp only[WD]at h;subst h;rfl,h⟩
 |.str s,v,φ,F,H,L,h=>⟨φ,F,H,v,L,uS.refl ..,by simp only[WD]at h;subst h;rfl,h⟩
 |.pl u,v,φ,F,H,L,h=>⟨φ,F,H,v,L,uS.refl ..,by grind[WD,av.of_plain],h⟩
 | .sl len cells,v,φ,F,H,L,h=>by
  simp only[WD]at h;rcases h with⟨rfl,rfl,rfl|⟨a,rfl⟩⟩|⟨c,o,cap,n,cs,e,fz,rfl,hlc,hn,hlen,hh,ho,hds⟩
  .exact⟨φ,F,H,.slice none 0 0,L,uS.refl ..,rfl,.inl ⟨rfl,rfl,.inl rfl⟩⟩
  .obtain⟨p,hp⟩:=L.pg;obtain⟨x,_,_,_,hx,h0,_⟩:=L.rel.dom _ _ hp;exact⟨φ,F,H,.slice (some ⟨od,0,none⟩) 0 0,L,uS.refl ..,⟨a,0,rfl,.inr ⟨rfl,rfl,rfl,rfl,p,hp⟩⟩,.inl ⟨rfl,rfl,.inr ⟨_,_,_,rfl,x,hx,h0⟩⟩⟩
  .obtain⟨φ1,F1,H1,us,L1,E1,r1,d1⟩:=lays cells _ L hds;have hl:us.length=cells.length:=by have:=d1.length;omega
   obtain⟨L2,E2⟩:=L1.push (us:=us) (n:=n) (o:=o) hh (by grind) aa (by rw[hl]) r1;refine⟨_,_,_,.slice (some ⟨H1.n,0,none⟩) len cap,L2,E1.trans E2,?_,?_⟩
   .refine⟨⟨c,o,none⟩,cap,rfl,.inl ⟨rfl,rfl,_,dU ..,rfl,rfl,.inl rfl⟩⟩
   .have new:(H1.push (roB H1.n n us)).get H1.n=some (roB H1.n n us):=AH.get_push_new H1 _;by_cases h0:len=0
    .subst h0;exact .inl ⟨rfl,Zf aa,.inr ⟨_,_,_,rfl,_,new,by simp[roB]⟩⟩
    .refine .inr ⟨H1.n,0,cap,us,n,rfl,aa,hlc,hn,hlen,.inr rfl,?_,RDs.mono (E2.leF L1) _ _ d1,_,new,.inl rfl⟩;rw[mW new rfl (by show 0+cells.length<=us.length;omega)]
     show some ((us.drop 0).take cells.length)=_
     grind
theorem lays{w:World}:∀(ds:LdQ)(vs:LvQ){φ:bG}{F:Nat->Prop}{H:AH},Ly w φ F H->WDs w ds vs ->
  ∃φ' F' H' us,Ly w φ' F' H'∧uS φ F H φ' F' H'∧aB φ' us vs∧RDs F' H' ds us
 |[],vs,φ,F,H,L,h=>⟨φ,F,H,[],L,uS.refl ..,by trivial,rfl⟩
 | d::ds,vs,φ,F,H,L,h=>by
  simp only[WDs]at h;obtain⟨v,vs,rfl,h1,h2⟩:=h;obtain⟨φ1,F1,H1,u,L1,E1,r1,d1⟩:=lay d v L h1;obtain⟨φ2,F2,H2,us,L2,E2,r2,d2⟩:=lays ds vs L1 h2;exact⟨φ2,F2,H2,u::us,L2,E1.trans E2,⟨v,vs,rfl,av.mono E2.le u v r1,r2⟩,⟨u,us,rfl,RD.mono (E2.leF L1) _ _ d1,d2⟩⟩
end
def aas:Nat->List Blk
 |0=>[]
 |n+1=>yF::aas n
theorem Lp:∀(n i:Nat)(x:Blk),(aas n)[i]?=some x->x=yF
 |0,_,_,h=>by trivial
 |n+1,0,x,h=>by grind[aas]
 |n+1,i+1,x,h=>Lp n i x (by trivial)
def BA:LvQ:=[.int .u64 1,.int .u64 10,.int .u64 100,.int .u64 1000,.int .u64 10000,.int .u64 100000,.int .u64 1000000,.int .u64 10000000,.int .u64 100000000,.int .u64 1000000000,.int .u64 10000000000,.int .u64 100000000000,
 .int .u64 1000000000000,.int .u64 10000000000000,.int .u64 100000000000000,.int .u64 1000000000000000,.int .u64 10000000000000000,.int .u64 100000000000000000,.int .u64 1000000000000000000,.int .u64 10000000000000000000]
def QU(w:World):Prop:=∃cs e fz,w.heap[od]?=some (.cells cs e fz)∧20<=cs.size∧BA=cs.toList.take 20
def H00:AH:=⟨od,aas od⟩
theorem ab3{b:Nat}{x:Blk}(h:H00.get b=some x):x=yF:=by
 unfold AH.get at h;split at h
 .exact Lp _ _ _ h
 .trivial
theorem start{w:World}(hp:QU w):∃φ F H,Ly w φ F H∧p9 Y F H:=by
 obtain⟨cs,e,fz,hh,hsz,hcs⟩:=hp
 let φ:bG:=fun b=>if b=od then some ⟨od,0,20,1,cs.size,true⟩else none
 let H:AH:=H00.push (roB od 1 BA)
 have hn:H.n=od+1:=rfl;have new:H.get od=some (roB od 1 BA):=AH.get_push_new H00 _
 have old:∀{b x},b≠od->H.get b=some x->x=yF:=fun{b x} hb hx=>by
  grind[H00,AH.get_push,ab3]
 have hφ:∀{b p},φ b=some p->b=od∧p=⟨od,0,20,1,cs.size,true⟩:=fun{b p} h=>by
  grind
 have ro:∀b x,H.get b=some x->x.wr=false:=fun b x hx=>by
  by_cases hb:b=od
  .subst hb;rw[new]at hx;cases hx;rfl
  .rw[old hb hx];rfl
 have L:Ly w φ (· = od) H:=by
  refine⟨⟨fun g hg=>?_,fun b p hp=>?_,fun b p x i v hp hx h1 hv=>?_,fun b p x i hp hx h1 hi=>?_,fun b b' p p' x x' _ _ hx hx' _ _ _ _=>.inl ⟨ro b x hx,ro b' x' hx'⟩⟩,?_,?_,ro,fun b p hp=>?_,⟨⟨od,0,20,1,cs.size,true⟩,by rfl⟩⟩
  .have:g=od:=by simpa[X]using hg
   exact⟨⟨od,0,20,1,cs.size,true⟩,by grind,this.symm,rfl⟩
  .grind[roB]
  .obtain⟨rfl,rfl⟩:=hφ hp;rw[new]at hx;cases hx;have hv':BA[i]?=some v:=hv;refine⟨v,?_,?_⟩
   .grind[cell_of_heap]
   .have hm:v∈BA:=W0 hv';have:BA.all plain=true:=rfl
    grind[av.of_plain]
  .grind
  .refine⟨by rfl,fun b x hx=>?_⟩;by_cases hb:b=od
   .subst hb;rw[new]at hx;cases hx;trivial
   .rw[old hb hx];exact Yl _
  .rintro c rfl;exact⟨aa,_,new,rfl⟩
  .grind
 refine⟨φ,_,H,L,fun g cs' hg=>?_⟩
 have hgp:g=od∧cs'=Ll:=by
  simp only[Y]at hg;split at hg
  .simp_all
  .cases hg
 obtain⟨rfl,rfl⟩:=hgp;refine⟨X7 _,rfl,BA,?_,?_⟩
 .rfl
 simp[Ll,BA,RDs,RD]
open Go.ChangeShapes Go.WideShapes Go.ChangeAt Go.RowKit
section
variable{HH:Type}{enc:TypeId×Value->HH}{P:Program}{w:World}{base:Nat}{held:Bool}
theorem MQ{v:Value}(h:w.cell? a=some v):∃cs e fz,w.heap[a.block]?=some (.cells cs e fz)∧a.spot=none∧cs[a.off]?=some v:=by
 unfold World.cell? at h;split at h
 .rename_i c e fz hc;split at h
  .cases h
  .rename_i hs;refine⟨c,e,fz,hc,?_,h⟩;cases hq:a.spot with
   |none=>rfl
   |some s=>rw[hq]at hs;simp at hs
 .cases h
theorem addr_add(a:Addr)(hs:a.spot=none)(i:Nat):a.add i=⟨a.block,a.off+i,none⟩:=by
 unfold Addr.add;split
 .rename_i h;subst h;cases a;simp at hs ⊢;exact hs
 .rfl
theorem Ib(h:∀i v,vs[i]?=some v->w.cell? (a.add i)=some v)(hp:0<vs.length):
  ∃cs e fz,w.heap[a.block]?=some (.cells cs e fz)∧a.spot=none∧a.off+vs.length<=cs.size∧vs=(cs.toList.drop a.off).take vs.length:=by
 obtain⟨v0,h0⟩:∃v,vs[0]?=some v:=⟨vs[0],by simp[hp]⟩;obtain⟨cs,e,fz,hc,hs,_⟩:=MQ (h 0 v0 h0);have ha0:a.add 0=a:=by unfold Addr.add;simp
 rw[ha0]at hc hs
 have at_:∀i v,vs[i]?=some v->cs[a.off+i]?=some v:=fun i v hv=>by
  obtain⟨cs',e',fz',hc',_,hv'⟩:=MQ (h i v hv);rw[addr_add a hs]at hc' hv';simp only at hc' hv';rw[hc]at hc';cases hc';exact hv'
 have hle:a.off+vs.length<=cs.size:=by
  have hl:=at_ (vs.length-1) vs[vs.length-1] (by rw[List.getElem?_eq_getElem]);have:=(Array.getElem?_eq_some_iff.1 hl).1;omega
 refine⟨cs,e,fz,hc,hs,hle,?_⟩;apply X8;intro i;by_cases hi:i<vs.length
 .rw[List.getElem?_take_of_lt hi,List.getElem?_drop];have:=at_ i vs[i] (by rw[List.getElem?_eq_getElem hi]);rw[List.getElem?_eq_getElem hi];simpa using this.symm
 .rw[List.getElem?_eq_none aa,List.getElem?_eq_none bK]
end
inductive Sh where
 |int (k:IntKind)
 |bool
 |str
 |sl (e:Sh)
 |ar (n:Nat) (e:Sh)
 |st (fs:List Sh)
variable{s e:Sh}
mutual
/-- A type has a shape. -/
def Typ(P:Program):Sh->TypeId->Prop
 |.int k,t=>P.underlying t=some (.int k)∧P.cellsOf t=1
 |.bool,t=>P.underlying t=some .bool∧P.cellsOf t=1
 |.str,t=>P.underlying t=some .string∧P.cellsOf t=1
 |.sl e,t=>∃u,P.underlying t=some (.slice u)∧P.cellsOf t=1∧0<P.cellsOf u∧Typ P e u
 |.ar n e,t=>∃u,P.underlying t=some (.array n u)∧P.cellsOf t=n*P.cellsOf u∧Typ P e u
 |.st fs,t=>∃l:List Field,P.underlying t=some (.struct l.toArray)∧SF P fs l 0 (P.cellsOf t)
def SF(P:Program):List Sh->List Field->Nat->Nat->Prop
 |[],l,o,n=>l=[]∧o=n
 |s::ss,l,o,n=>∃f r,l=f::r∧f.offset=o∧Typ P s f.type∧SF P ss r (o+P.cellsOf f.type) n
end
mutual
/-- Cells of a shape. -/
def Dat:Sh->LdQ->Prop
 |.int k,ds=>∃n,ds=[.int k n]∧(Lit.int k n).wf=true
 |.bool,ds=>∃b,ds=[.bool b]
 |.str,ds=>∃s:LuQ,ds=[.str s]∧s.length<=maxLen
 |.sl e,ds=>∃xs:List LdQ,ds=[.sl xs.length xs.flatten]∧∀x∈xs,Dat e x
 |.ar n e,ds=>∃xs:List LdQ,ds=xs.flatten∧xs.length=n∧∀x∈xs,Dat e x
 |.st ss,ds=>aeO ss ds
def aeO:List Sh->LdQ->Prop
 |[],ds=>ds=[]
 |s::ss,ds=>∃a b,ds=a++b∧Dat s a∧aeO ss b
end
section
variable{HH:Type}{enc:TypeId×Value->HH}{P:Program}{w:World}{base:Nat}{held:Bool}
theorem WDs.append:∀{a b:LdQ}{u v:LvQ},WDs w a u->WDs w b v->WDs w (a++b) (u++v)
 |[],b,u,v,h,h2=>by grind[WDs]
 | x::a,b,u,v,h,h2=>by
  simp only[WDs]at h;obtain⟨y,u,rfl,h0,h1⟩:=h;exact⟨y,u++v,rfl,h0,h1.append h2⟩
theorem WDs.len:∀{a:LdQ}{u:LvQ},WDs w a u->a.length=u.length
 |[],u,h=>by grind[WDs]
 | x::a,u,h=>by
  simp only[WDs]at h;obtain⟨y,u,rfl,_,h1⟩:=h;simp[h1.len]
theorem vk{α:Type}(C:Nat->List α)(n:Nat):∀m,(∀i,i<m->(C i).length=n)->((List.range m).flatMap C).length=m*n∧∀i j,i<m->j<n->((List.range m).flatMap C)[i*n+j]?=(C i)[j]?
 |0,_=>⟨af,fun i j hi=>by omega⟩
 | m+1,h=>by
  obtain⟨h1,h2⟩:=vk C n m fun i hi=>h i aa
  have e:(List.range (m+1)).flatMap C=(List.range m).flatMap C++C m:=by simp[Y3]
  rw[e];refine⟨by rw[Zm,h1,h m aa,X5],fun i j hi hj=>?_⟩;by_cases him:i<m
  .rw[List.getElem?_append_left,h2 i j him hj];rw[h1]
   calc i*n+j<i*n+n:=aa
    _=(i+1)*n:=by rw[X5]
    _<=m*n:=Zz n him
  .obtain rfl:i=m:=aa
   simp_all
theorem Bc(C:Nat->LvQ)(X:Nat->LdQ):∀m,(∀i,i<m->WDs w (X i) (C i))->WDs w ((List.range m).flatMap X) ((List.range m).flatMap C)
 |0,_=>rfl
 | m+1,h=>by
  simp only[Y3,List.flatMap_append,Xn,List.flatMap_nil,Y8];exact(Bc C X m fun i hi=>h i aa).append (h m aa)
theorem QY{len cap:Nat}(hn:0<n)(hl:len<=cap)(hlen:vs.length=cap*n)(h:∀i v,vs[i]?=some v->w.cell? (a.add i)=some v)(hd:WDs w ds (vs.take (len*n)))(hds:ds.length=len*n):WD w (.sl len ds) (.slice (some a) len cap):=by
 simp only[WD];by_cases h0:cap=0
 .have e:len=0:=aa
  simp_all
 .have hpos:0<vs.length:=by rw[hlen];exact Yx aa hn
  have hle2:len*n<=vs.length:=by rw[hlen];exact Zz n hl
  obtain⟨cs,e,fz,hc,hs,hle,hvs⟩:=Ib h hpos;refine .inr ⟨a.block,a.off,cap,n,cs,e,fz,?_,hl,hn,hds,hc,aa,?_⟩
  .cases a;grind
  grind
def Opn(enc:TypeId×Value->HH)(P:Program)(w:World)(base:Nat)(held:Bool)(s:Sh):Prop:=
 ∀(t:TypeId)(fuel:Nat)(cs:LvQ)(x:DataW HH×List MemPlace),Typ P s t->DataW.trod enc P w base (fun _=>true) held fuel t cs=some x->cs.length=P.cellsOf t∧∃ds,Dat s ds∧WDs w ds cs
theorem JM{α:Type}[Inhabited α]{p:Nat->α->Prop}(h:∀i,i<m->∃x,p i x):∃f:Nat->α,∀i,i<m->p i (f i):=
 ⟨fun i=>if hi:i<m then Classical.choose (h i hi)else default,fun i hi=>by
  grind⟩
theorem adS(ih:Opn enc P w base held s):Opn enc P w base held (.sl s):=by
 intro t fuel cs x ht h;simp only[Typ]at ht;obtain⟨u,hu,hc1,hcu,hs⟩:=ht;rcases Deep.open_slice hu h with⟨rfl,_⟩|⟨a,len,cap,m,n,Dd,Pl,rfl,_,hlc,_,hm,_,hx⟩
 .exact⟨by grind,[.sl 0 []],⟨[],rfl,fun x hx=>by cases hx⟩,_,_,rfl,.inl ⟨rfl,rfl,.inl rfl⟩,rfl⟩
 .simp only[if_true]at hm;subst hm;obtain⟨C,hC⟩:=JM (α:=LvQ) hx
  obtain ⟨E,hE⟩:=JM (α:=LdQ) (p:=fun i e=>Dat s e∧WDs w e (C i)) (m:=m) fun i hi=>by
   obtain⟨_,ds,h1,h2⟩:=ih _ _ _ _ hs (hC i hi).2
   grind
  have hCl:∀i,i<m->(C i).length=P.cellsOf u:=fun i hi=>(World.cells?_some (hC i hi).1).2.1
  obtain⟨hl1,hl2⟩:=vk C (P.cellsOf u) m hCl;have hEl:∀i,i<m->(E i).length=P.cellsOf u:=fun i hi=>by rw[(hE i hi).2.len,hCl i hi]
  refine⟨by grind,[.sl ((List.range len).map E).length ((List.range len).map E).flatten],⟨_,rfl,fun x hx=>?_⟩,_,_,rfl,?_,rfl⟩
  .simp only[Zc,X6]at hx;obtain⟨i,hi,rfl⟩:=hx;exact(hE i aa).1
  .rw[List.length_map,Y0,<-List.flatMap_def];refine QY (vs:=(List.range m).flatMap C) hcu hlc hl1 (fun i v hv=>?_) ?_ (vk E (P.cellsOf u) len fun i hi=>hEl i aa).1
   .have hi:=(List.getElem?_eq_some_iff.1 hv).1;rw[hl1]at hi;have hdm:=Yf i (P.cellsOf u);have hmod:=Y7 i hcu;have hdiv:i/P.cellsOf u<m:=Wl (by grind);have e:i=i/P.cellsOf u*P.cellsOf u+i%P.cellsOf u:=by rw[Zt];exact hdm.symm
    have:=(World.cells?_some (hC _ hdiv).1).2.2 (i%P.cellsOf u) hmod
    grind[Addr.add_add]
   ·have e:((List.range m).flatMap C).take (len*P.cellsOf u)=(List.range len).flatMap C:=by
     have e1:List.range m=List.range len++(List.range (m-len)).map (len + ·):=by
      conv=>lhs;rw[show m=len+(m-len) by omega,List.range_add]
     rw[e1,List.flatMap_append,Xy];exact(vk C (P.cellsOf u) len fun i hi=>hCl i aa).1
    rw[e];exact Bc C E len fun i hi=>(hE i aa).2
theorem adT(ih:Opn enc P w base held s):Opn enc P w base held (.ar n s):=by
 intro t fuel cs x ht h;simp only[Typ]at ht;obtain⟨u,hu,hct,hs⟩:=ht;obtain⟨xs,m,_,_,hl,hxl,hx⟩:=DataW.trod_array hu h
 let C:Nat->LvQ:=fun i=>(cs.drop (i*P.cellsOf u)).take (P.cellsOf u)
 obtain ⟨E,hE⟩:=JM (α:=LdQ) (p:=fun i e=>Dat s e∧WDs w e (C i)) (m:=n) fun i hi=>by
  have:=hx i hi;rw[List.getElem?_eq_getElem aa]at this;obtain⟨_,ds,h1,h2⟩:=ih _ _ _ _ hs this
  grind
 refine⟨hl,((List.range n).map E).flatten,⟨_,rfl,af,fun x hx=>?_⟩,?_⟩
 .grind
 .rw[<-List.flatMap_def]
  have e:∀m,m<=n->cs.take (m*P.cellsOf u)=(List.range m).flatMap C:=by
   intro m
   induction m with
   |zero=>simp
   | succ m ihm=>
    intro hm;rw[X5,List.take_add,ihm aa];simp[Y3,C]
  have:=e n (Z7 _);rw[Z6 aa]at this
  grind[Bc]
mutual
theorem opn:∀s:Sh,Opn enc P w base held s
 | .int k=>by
  intro t fuel cs x ht h;simp only[Typ]at ht;obtain⟨n,rfl,_,hw⟩:=DataW.trod_int ht.1 h;exact⟨by grind,[.int k n],⟨n,rfl,hw⟩,_,_,rfl,rfl,rfl⟩
 | .bool=>by
  intro t fuel cs x ht h;simp only[Typ]at ht;obtain⟨b,rfl,_⟩:=DataW.trod_bool ht.1 h;exact⟨by grind,[.bool b],⟨b,rfl⟩,_,_,rfl,rfl,rfl⟩
 | .str=>by
  intro t fuel cs x ht h;simp only[Typ]at ht;obtain⟨s,rfl,_,hs⟩:=DataW.trod_string ht.1 h;exact⟨by grind,[.str s.data.toList],⟨_,rfl,by trivial⟩,_,_,rfl,rfl,rfl⟩
 |.sl e=>adS (opn e)
 |.ar n e=>adT (opn e)
 | .st ss=>by
  intro t fuel cs x ht h;simp only[Typ]at ht;obtain⟨l,hu,hl⟩:=ht;obtain⟨xs,m,_,_,hcl,hxl,hx⟩:=DataW.trod_struct hu h;refine⟨hcl,?_⟩
  have:=afH ss (l:=l) (o:=0) (n:=P.cellsOf t) (fuel:=m) (cs:=cs) hl hcl fun f hf=>by
   obtain⟨i,hi⟩:=List.getElem?_of_mem hf;have h1:=hx i f (by grind)
   grind
  trivial
theorem afH:∀(ss:List Sh){l:List Field}{o n fuel:Nat}{cs:LvQ},SF P ss l o n->cs.length=n ->
  (∀f∈l,∃x,DataW.trod enc P w base (fun _=>true) held fuel f.type ((cs.drop f.offset).take (P.cellsOf f.type))=some x)->∃ds,aeO ss ds∧WDs w ds (cs.drop o)
 | [],l,o,n,fuel,cs,ht,hl,h=>by
  simp only[SF]at ht;refine⟨[],rfl,?_⟩;rw[Zb aa];rfl
 | s::ss,l,o,n,fuel,cs,ht,hl,h=>by
  simp only[SF]at ht;obtain⟨f,r,rfl,rfl,h1,h2⟩:=ht;obtain⟨x,hx⟩:=h f af;obtain⟨_,a,ha,wa⟩:=opn s _ _ _ _ h1 hx;obtain⟨b,hb,wb⟩:=afH ss h2 hl fun g hg=>h g (by grind)
  refine⟨a++b,⟨a,b,rfl,ha,hb⟩,?_⟩
  have e:cs.drop f.offset=(cs.drop f.offset).take (P.cellsOf f.type)++cs.drop (f.offset+P.cellsOf f.type):=by
   rw[<-List.drop_drop,Yi]
  grind[WDs.append]
end
inductive Ar where
 |one (x:D)
 |many (xs:LdQ)
def Ar.v:Ar->V
 |.one x=>.d x
 |.many xs=>.agg (xs.map .d)
def WA(w:World):Ar->Value->Prop
 |.one x,v=>WD w x v
 |.many xs,v=>∃ws,v=.agg ⟨ws⟩∧WDs w xs ws
def WAs(w:World):List Ar->LvQ->Prop
 |[],l=>l=[]
 |x::xs,l=>∃v vs,l=v::vs∧WA w x v∧WAs w xs vs
theorem TI{F1:Nat->Prop}{H1:AH}(φ0:LnQ)(h0:Hp):∀(ds:LdQ)(us:LvQ),RDs F1 H1 ds us->RVs φ0 F1 H1 h0 (ds.map .d) us
 |[],us,h=>by trivial
 | d::ds,us,h=>by
  simp only[RDs]at h;obtain⟨u,us,rfl,h1,h2⟩:=h;exact⟨u,us,rfl,h1,TI φ0 h0 ds us h2⟩
def RAs(F:Nat->Prop)(H:AH)(rs:List Ar)(us:LvQ):Prop:=∀φ0 h0,RVs φ0 F H h0 (rs.map Ar.v) us
theorem ad8:∀(rs:List Ar)(vs:LvQ){φ:bG}{F:Nat->Prop}{H:AH},Ly w φ F H->WAs w rs vs ->
  ∃φ' F' H' us,Ly w φ' F' H'∧uS φ F H φ' F' H'∧aB φ' us vs∧RAs F' H' rs us
 |[],vs,φ,F,H,L,h=>⟨φ,F,H,[],L,uS.refl ..,by trivial,fun _ _=>rfl⟩
 | .one x::rs,vs,φ,F,H,L,h=>by
  simp only[WAs,WA]at h;obtain⟨v,vs,rfl,h1,h2⟩:=h;obtain⟨φ1,F1,H1,u,L1,E1,r1,d1⟩:=lay x v L h1;obtain⟨φ2,F2,H2,us,L2,E2,r2,d2⟩:=ad8 rs vs L1 h2;exact⟨φ2,F2,H2,u::us,L2,E1.trans E2,⟨v,vs,rfl,av.mono E2.le u v r1,r2⟩,fun φ0 h0=>⟨u,us,rfl,RD.mono (E2.leF L1) _ _ d1,d2 φ0 h0⟩⟩
 | .many xs::rs,vs,φ,F,H,L,h=>by
  simp only[WAs,WA]at h;obtain⟨v,vs,rfl,⟨ws,rfl,h1⟩,h2⟩:=h;obtain⟨φ1,F1,H1,us1,L1,E1,r1,d1⟩:=lays xs ws L h1;obtain⟨φ2,F2,H2,us,L2,E2,r2,d2⟩:=ad8 rs vs L1 h2;exact⟨φ2,F2,H2,.agg ⟨us1⟩::us,L2,E1.trans E2,⟨_,vs,rfl,⟨ws,rfl,aB.mono E2.le _ _ r1⟩,r2⟩,fun φ0 h0=>⟨_,us,rfl,⟨us1,rfl,TI φ0 h0 _ _ (RDs.mono (E2.leF L1) _ _ d1)⟩,d2 φ0 h0⟩⟩
theorem JP{rs:List Ar}{b:Bool}{w:World}(hc:CP Y f (rs.map Ar.v) (.d (.bool b)))(hw:WAs w rs vs)(hp:QU w)(h0:∀u,Y.X.orc f u=none:=by exact fun _=>rfl):
  Calls X.P f vs.toArray w fun e w'=>e=.returned (.bool b)∧w'.os=w.os∧w'.output=w.output∧w.heap.size<=w'.heap.size∧∀c,c<w.heap.size->w'.heap[c]?=w.heap[c]?:=by
 obtain⟨φ,F,H,L,g⟩:=start hp;obtain⟨φ1,F1,H1,us,L1,E1,r1,d1⟩:=ad8 rs vs L hw;obtain⟨n,wv,H2,F2,hcall,hn,_,_,_,_,_,_,_,hr⟩:=agE vOk hc F1 H1 us L1.wf L1.fr (g.mono (E1.leF L)) d1
 have hv:wv=.bool b:=by
  have:=hr [] [];simpa only[RV,RD]using this
 subst hv;refine(MR adV hcall L1.rel (args':=vs.toArray) r1 h0).mono ?_;rintro e w' ⟨φ',v',rfl,h1,h2,h3,h4⟩;have hv':v'=.bool b:=(av.of_plain (.bool b) rfl v').1 h1;subst hv';refine⟨rfl,h3.os,h3.out,h3.size,fun c hc=>h3.frame c hc ?_⟩;rintro⟨b',p,x,_,_,hx,_,hwr⟩
 grind[Ly.ro]
theorem ZH{v:Value}{x:DataW HH×List MemPlace}(ht:Typ P s t)(h:DataW.trod enc P w base (fun _=>true) held fuel t v.cells.toList=some x)(hv:∃cs,v=.agg cs):
  ∃ds,Dat s ds∧WA w (.many ds) v:=by obtain⟨hl,ds,h1,h2⟩:=opn s _ _ _ _ ht h;obtain⟨cs,rfl⟩:=hv;exact⟨ds,h1,cs.toList,rfl,h2⟩
theorem NA{P:Program}{W:World}{base:Nat}{fs:Array Field}{v:Value}(ht:P.underlying t=some (.struct fs))(h:Value.okWide P W .any base t v):∃cs,v=.agg cs:=by grind[Value.okWide]
end
def QV(W W':World):Prop:=W'.os=W.os∧W'.output=W.output∧W.heap.size<=W'.heap.size∧∀c,c<W.heap.size->W'.heap[c]?=W.heap[c]?
section
variable{H:Type}{enc:TypeId×Value->H}{P:Program}
theorem QV.but{W W':World}(h:QV W W')(may:MemPlace->Prop):W.keptBut W' may:=by
 refine⟨h.1,h.2.1,fun i hi=>?_⟩;rw[h.2.2.2 i hi];cases hq:W.heap[i]? with
 |none=>simp
 |some o=>cases o<;>simp
theorem Rv{f:Func}{s:ChangeSpec}{apart fresh handsOn again:Bool}{W W':World}{args:Array Value}{v:Value}{ds gs:List (DataW H)}{before pa pv:List MemPlace}
  (hW:DataW.Whole enc P f.params.toList s.vars apart W args.toList ds gs before)
  (hres:∀(b:Nat)(sp:Nat->Bool)(hd:Bool),DataW.TrodAll enc P W' b sp hd f.resultTypes.toList (v.resultList f.resultTypes.size) (s.fn H (ds++gs)).results [])
  (hargs:∀sp:Nat->Bool,(∀p∈before,sp p.block=true)->DataW.TrodAll enc P W' 0 sp true f.params.toList args.toList (s.fn H (ds++gs)).args pa)
  (hvars:∀sp:Nat->Bool,(∀p∈before,sp p.block=true)->DataW.TrodVars enc P W' sp s.vars (s.fn H (ds++gs)).vars pv)
  (hps:before=pa++pv) (hk:QV W W')
  (hok:∀(j:Nat)(t:TypeId)(r:Value),f.resultTypes[j]?=some t->(v.resultList f.resultTypes.size)[j]?=some r->Value.okWide P W' .any 0 t r) :
  s.post enc P f apart fresh handsOn again W args v W':=by
 have hold:∀p∈before,(fun b=>decide (b<W.heap.size)) p.block=true:=fun p hp=>by simpa using hW.lt p hp
 have hlt:=hW.lt;refine⟨ds,gs,before,[],pa,pv,hW,hres _ _ _,hargs _ hold,hvars _ hold,World.keptBut_mono (fun p hp=>⟨hp,?_⟩) (hk.but (· ∈ before)),fun _=>?_⟩
 .rw[hps,W4]at hp;exact Or.inr hp
 .obtain⟨_,_,_,_,_,hz,hn⟩:=hW;refine⟨hok,_,_,([]++pa)++pv,⟨[]++pa,pv,trodAll_append (hargs _ (fun _ _=>rfl)) (hres _ _ _),hvars _ (fun _ _=>rfl),rfl,?_,?_⟩,?_⟩
  .intro b off hp;have hp':MemPlace.cell b off∈before:=by rw[hps];simpa using hp
   have hb:b<W.heap.size:=hlt _ hp';have:=hz b off hp';simp only[World.frozen?]at this ⊢;rw[hk.2.2.2 b hb];exact this
  .intro ha;have:=hn ha;rw[hps]at this;simpa using this
  .intro p hp _;rw[hps];simpa using hp
theorem zD(hl:laidOutB P=true){W W':World}(hk:QV W W'){sp:Nat->Bool}:∀{ts:List TypeId}{vs:LvQ}{ds:List (DataW H)}{ps:List MemPlace},(∀t∈ts,P.readableRec t=true∧t<P.types.size) ->
  DataW.TrodAll enc P W 0 (fun _=>true) true ts vs ds ps->(∀p∈ps,p.block<W.heap.size)->(∀p∈ps,sp p.block=true)->DataW.TrodAll enc P W' 0 sp true ts vs ds ps
 | [],vs,ds,ps,_,h,_,_=>by
  obtain⟨rfl,rfl,rfl⟩:=trodAll_nil h;exact trodAll_mk0
 | t::ts,vs,ds,ps,hr,h,hlt,hsp=>by
  obtain⟨v,vs',d,ds',p,q,rfl,rfl,rfl,h1,h2⟩:=trodAll_cons h;refine trodAll_cons_mk (WideElems.Trod_stays hl (hr t af).1 (hr t af).2 h1 (fun x hx=>?_) fun x hx=>hsp x (by simp[hx])) (zD hl hk (fun u hu=>hr u (by simp[hu])) h2 (fun x hx=>hlt x (by simp[hx])) fun x hx=>hsp x (by simp[hx]));have hb:=hlt x (by simp[hx]);cases x with
  | cell b off=>
   simp only[World.sameAt,World.cell?];rw[hk.2.2.2 b hb]
  |map b=>exact hk.2.2.2 b hb
end
theorem E6{P:Program}{w:World}:∀{l:List (String×DataW Unit)}{ps:List MemPlace},DataW.LaidVars P w l ps->∀n d,(n,d)∈l ->
  ∃g t cs fuel p,P.globalNamed n=some g∧(P.globals[g]?).map (·.type)=some t∧w.var? P n=some cs∧DataW.trod (fun _=>()) P w 0 (fun _=>true) false fuel t cs.toList=some (d,p)
 |[],_,_,_,_,hm=>by cases hm
 | (n',d')::r,ps,h,n,d,hm=>by
  obtain⟨g,t,cs,fuel,p,q,h1,h2,h3,h4,h5,_⟩:=h;rcases Zo.1 hm with e|e
  .cases e;exact⟨g,t,cs,fuel,p,h1,h2,h3,h4⟩
  .exact E6 h5 n d e
def adO:LiQ:=[1,10,100,1000,10000,100000,1000000,10000000,100000000,1000000000,10000000000,100000000000,1000000000000,10000000000000,100000000000000,1000000000000000,10000000000000000,100000000000000000,1000000000000000000,10000000000000000000]
theorem adM{P:Program}{W:World}{name:String}{t e:TypeId}(hg:P.globalNamed name=some od)(hty:(P.globals[od]?).map (·.type)=some t)(ht:P.underlying t=some (.array 20 e))(he:P.underlying e=some (.int .u64))(hce:P.cellsOf e=1)(hct:P.cellsOf t=20)
  {l:List (String×DataW Unit)} (hm:(name,Lib.tabData .u64 adO)∈l) (h:laidMet P l W):QU W:=by
 obtain⟨ps,hv,_⟩:=h;obtain⟨g',t',cs,fuel,p,hg',ht',hvar,hd⟩:=E6 hv _ _ hm;obtain rfl:=Option.some.inj (hg.symm.trans hg');obtain rfl:=Option.some.inj (hty.symm.trans ht')
 have tab:Lib.TabIs P W name .u64 adO:=by
  unfold Lib.TabIs;rw[hvar,<-Lib.cells_of_tab ht he hce hct hd]
 have hpv:∀i v,BA[i]?=some v->W.cell? ((⟨od,0,none⟩:Addr).add i)=some v:=by
  intro i v hv;have hi:i<20:=(List.getElem?_eq_some_iff.1 hv).1;rw[addr_add _ rfl];have h1:=tab.cell hg i hi;simp only[Zp];rw[h1];have h2:BA=adO.map fun z=>Value.int .u64 z:=rfl
  rw[h2,List.getElem?_map,Z3]at hv;obtain⟨z,hz,rfl⟩:=hv;simp[hz]
 obtain⟨cs,e,fz,h1,_,h2,h3⟩:=Ib (w:=W) (a:=⟨od,0,none⟩) (vs:=BA) hpv ae;exact⟨cs,e,fz,h1,by simpa[BA]using h2,by simpa[BA]using h3⟩
open Go.Proofs Go.Proofs.YtmfphhiejjamaabGreatDoor
theorem aij:Tryz.prog.globalNamed "internal/strconv.uint64pow10" = some od:=by kernel_rfl
theorem VS:(Tryz.prog.globals[od]?).map (·.type)=some 248:=ah
theorem ado:Tryz.prog.underlying 248=some (.array 20 180):=ah
theorem adn:Tryz.prog.underlying 180=some (.int .u64):=ah
theorem XJ:Tryz.prog.cellsOf 180=1:=ah
theorem XM:Tryz.prog.cellsOf 248=20:=ah
mutual
/-- Has a type a shape? -/
def Gb(P:Program):Sh->TypeId->Bool
 | .int k,t=>(match P.underlying t with
  |some (.int k')=>decide (k'=k)
  |_=>false)&&Nat.beq (P.cellsOf t) 1
 | .bool,t=>(match P.underlying t with
  |some .bool=>true
  |_=>false)&&Nat.beq (P.cellsOf t) 1
 | .str,t=>(match P.underlying t with
  |some .string=>true
  |_=>false)&&Nat.beq (P.cellsOf t) 1
 | .sl e,t=>(match P.underlying t with
  |some (.slice u)=>Nat.beq (P.cellsOf t) 1&&Nat.blt 0 (P.cellsOf u)&&Gb P e u
  |_=>false)
 | .ar n e,t=>(match P.underlying t with
  |some (.array m u)=>Nat.beq m n&&Nat.beq (P.cellsOf t) (n*P.cellsOf u)&&Gb P e u
  |_=>false)
 | .st fs,t=>(match P.underlying t with
  |some (.struct l)=>G4 P fs l.toList 0 (P.cellsOf t)
  |_=>false)
def G4(P:Program):List Sh->List Field->Nat->Nat->Bool
 |[],l,o,n=>l.isEmpty&&Nat.beq o n
 | s::ss,l,o,n=>(match l with
  |[]=>false
  |f::r=>Nat.beq f.offset o&&Gb P s f.type&&G4 P ss r (o+P.cellsOf f.type) n)
end
mutual
theorem Iz{P:Program}:∀{s:Sh}{t:TypeId},Gb P s t=true->Typ P s t
 | .int k,t,h=>by
  simp only[Gb,Z8]at h;obtain⟨h1,h2⟩:=h;split at h1
  .rename_i h3;obtain rfl:=of_decide_eq_true h1;exact⟨h3,Zl h2⟩
  .cases h1
 | .bool,t,h=>by
  simp only[Gb,Z8]at h;obtain⟨h1,h2⟩:=h;split at h1
  .rename_i h3;exact⟨h3,Zl h2⟩
  .cases h1
 | .str,t,h=>by
  simp only[Gb,Z8]at h;obtain⟨h1,h2⟩:=h;split at h1
  .rename_i h3;exact⟨h3,Zl h2⟩
  .cases h1
 | .sl e,t,h=>by
  simp only[Gb]at h;split at h
  .rename_i u h3;simp only[Z8]at h;obtain⟨⟨h1,h2⟩,h4⟩:=h;exact⟨u,h3,Zl h1,by have:=h2;simp[Nat.blt]at this;omega,Iz h4⟩
  .cases h
 | .ar n e,t,h=>by
  simp only[Gb]at h;split at h
  .rename_i m u h3;simp only[Z8]at h;obtain⟨⟨h1,h2⟩,h4⟩:=h;obtain rfl:=Zl h1;exact⟨u,h3,Zl h2,Iz h4⟩
  .cases h
 | .st fs,t,h=>by
  simp only[Gb]at h;split at h
  .rename_i l h3;exact⟨l.toList,by rw[h3],O6 h⟩
  .cases h
theorem O6{P:Program}:∀{ss:List Sh}{l:List Field}{o n:Nat},G4 P ss l o n=true->SF P ss l o n
 | [],l,o,n,h=>by
  simp only[G4,Z8,List.isEmpty_iff]at h;exact⟨h.1,Zl h.2⟩
 |s::ss,[],o,n,h=>by simp[G4]at h
 | s::ss,f::r,o,n,h=>by
  simp only[G4,Z8]at h;obtain⟨⟨h1,h2⟩,h3⟩:=h;exact⟨f,r,rfl,Zl h1,Iz h2,O6 h3⟩
end
def adD:Sh:=.st [.int .u8,.ar 5 (.int .u8),.ar 5 (.ar 3 (.ar 3 (.int .i8))),.ar 4 (.ar 2 (.ar 2 (.int .u8))),.int .u8]
def Tv:Sh:=.st [adD,.ar 5 (.int .u8),.ar 5 (.ar 3 (.ar 3 (.int .i8))),.st [.int .i8,.int .u8]]
def Flt(k:IntKind)(n:Nat)(ds:LdQ):Prop:=ds.length=n∧∀d∈ds,∃z,d=.int k z∧(Lit.int k z).wf=true
theorem rP(h:Dat (.int k) ds):Flt k 1 ds:=by obtain⟨n,rfl,hw⟩:=h;exact⟨rfl,fun d hd=>⟨n,by simpa using hd,hw⟩⟩
theorem Mj{k:IntKind}{m:Nat}:∀xs:List LdQ,(∀x∈xs,Flt k m x)->Flt k (xs.length*m) xs.flatten
 |[],_=>⟨af,fun d hd=>by simp at hd⟩
 | x::xs,h=>by
  obtain⟨a1,a2⟩:=h x af;obtain⟨b1,b2⟩:=Mj xs fun y hy=>h y (by simp[hy])
  refine⟨by rw[List.flatten_cons,Zm,a1,b1,List.length_cons,X5];omega,fun d hd=>?_⟩;rw[List.flatten_cons]at hd;rcases W4.1 hd with hd|hd
  .exact a2 d hd
  .exact b2 d hd
theorem tu(he:∀ds,Dat e ds->Flt k m ds)(h:Dat (.ar n e) ds):Flt k (n*m) ds:=by obtain⟨xs,rfl,hl,hx⟩:=h;rw[<-hl];exact Mj xs fun x hm=>he x (hx x hm)
def Kdn(o:Nat)(ds:LdQ):Prop:=∀j,j<ds.length->∃z,ds[j]?=some (.int (CV (o+j)) z)∧(Lit.int (CV (o+j)) z).wf=true
theorem vu(h:Flt k n ds)(hk:∀j<n,CV (o+j)=k):Kdn o ds:=fun j hj=>by
 obtain⟨z,e,hw⟩:=h.2 ds[j] (Wj hj);rw[hk j (by have:=h.1;omega)];exact⟨z,by rw[List.getElem?_eq_getElem hj,e],hw⟩
theorem pE{a b:LdQ}(ha:Kdn o a)(hl:a.length=n)(hb:Kdn (o+n) b):Kdn o (a++b):=fun j hj=>by
 rw[Zm]at hj;by_cases h:j<a.length
 .obtain⟨z,e,hw⟩:=ha j h;exact⟨z,by rw[List.getElem?_append_left h,e],hw⟩
 .obtain⟨z,e,hw⟩:=hb (j-a.length) aa;rw[show o+n+(j-a.length)=o+j by omega]at e hw;exact⟨z,by rw[List.getElem?_append_right aa,e],hw⟩
def ivD:D->Int
 |.int _ z=>z
 |_=>0
theorem wf_u8{n:Int}(h:(Lit.int .u8 n).wf=true):0<=n∧n<=255:=by simp only[Lit.wf,Z8,decide_eq_true_eq]at h;exact h
theorem wf_i8{n:Int}(h:(Lit.int .i8 n).wf=true): -128<=n∧n<=127:=by simp only[Lit.wf,Z8,decide_eq_true_eq]at h;exact h
theorem WU(h:Dat Tv ds):∃f:Nat->Int,GW f∧ds.map V.d=plC f:=by
 obtain⟨a,b,rfl,h1,h2⟩:=h;obtain⟨a1,b1,rfl,q1,r1⟩:=h1;obtain⟨a2,b2,rfl,q2,r2⟩:=r1;obtain⟨a3,b3,rfl,q3,r3⟩:=r2;obtain⟨a4,b4,rfl,q4,r4⟩:=r3;obtain⟨a5,b5,rfl,q5,rfl⟩:=r4;obtain⟨a6,b6,rfl,q6,r6⟩:=h2;obtain⟨a7,b7,rfl,q7,r7⟩:=r6;obtain⟨a8,b8,rfl,q8,rfl⟩:=r7;obtain⟨a9,b9,rfl,q9,r9⟩:=q8;obtain⟨a0,b0,rfl,q0,rfl⟩:=r9;have f1:=rP q1;have f2:Flt .u8 (5*1) a2:=tu (fun _ h=>rP h) q2
 have f3:Flt .i8 (5*(3*(3*1))) a3:=tu (fun _ h=>tu (fun _ h=>tu (fun _ h=>rP h) h) h) q3;have f4:Flt .u8 (4*(2*(2*1))) a4:=tu (fun _ h=>tu (fun _ h=>tu (fun _ h=>rP h) h) h) q4;have f5:=rP q5;have f6:Flt .u8 (5*1) a6:=tu (fun _ h=>rP h) q6
 have f7:Flt .i8 (5*(3*(3*1))) a7:=tu (fun _ h=>tu (fun _ h=>tu (fun _ h=>rP h) h) h) q7;have f9:=rP q9;have f0:=rP q0
 have K:Kdn 0 ((a1++(a2++(a3++(a4++(a5++[])))))++(a6++(a7++((a9++(a0++[]))++[])))):=by
  refine pE (n:=68) (pE (vu f1 fun j hj=>tG aa) f1.1 (pE (vu f2 fun j hj=>tG aa) f2.1 (pE (vu f3 fun j hj=>xo aa) f3.1 (pE (vu f4 fun j hj=>tG aa) f4.1 (pE (vu f5 fun j hj=>tG aa) f5.1 fun j hj=>by simp at hj))))) ?_
   (pE (vu f6 fun j hj=>tG aa) f6.1 (pE (vu f7 fun j hj=>xo aa) f7.1 (pE (n:=2) (pE (vu f9 fun j hj=>xo aa) f9.1 (pE (vu f0 fun j hj=>tG aa) f0.1 fun j hj=>by simp at hj)) ?_ fun j hj=>by simp at hj)))
  .simp only[Zm,f1.1,f2.1,f3.1,f4.1,f5.1,List.length_nil]
  .simp only[Zm,f9.1,f0.1,List.length_nil]
 have L:((a1++(a2++(a3++(a4++(a5++[])))))++(a6++(a7++((a9++(a0++[]))++[])))).length=120:=by
  simp only[Zm,f1.1,f2.1,f3.1,f4.1,f5.1,f6.1,f7.1,f9.1,f0.1,List.length_nil]
 generalize(a1++(a2++(a3++(a4++(a5++[])))))++(a6++(a7++((a9++(a0++[]))++[])))=ds at K L
 have key:∀j,j<120->ds[j]?=some (plD (fun j=>ivD (ds.getD j (.bool true))) j)∧(Lit.int (CV j) (ivD (ds.getD j (.bool true)))).wf=true:=fun j hj=>by
  obtain⟨z,e,hw⟩:=K j aa;rw[Zp]at e hw;have ez:ivD (ds.getD j (.bool true))=z:=by rw[Zy,e];rfl
  exact⟨by rw[e];show _=some (D.int (CV j) (ivD (ds.getD j (.bool true))));rw[ez],by rw[ez];exact hw⟩
 refine⟨fun j=>ivD (ds.getD j (.bool true)),⟨fun j hj hk=>?_,fun j hj hk=>?_⟩,?_⟩
 .have:=(key j hj).2;rw[hk]at this;exact wf_u8 this
 .have:=(key j hj).2;rw[hk]at this;exact wf_i8 this
 .apply X8;intro j;by_cases hj:j<120
  .rw[List.getElem?_map,(key j hj).1];unfold plC;rw[Ru _ hj];rfl
  .rw[List.getElem?_eq_none bK,List.getElem?_eq_none (by simp[plC];omega)]
def aib:DataW Unit->Value
 |.lit (.int k n)=>.int k n
 |_=>undef
def adt:DataW Unit->Array Value
 |.agg l=>(l.map aib).toArray
 |_=>#[]
def age:DataW Unit->Value
 |.iface _ (.ptr (.agg [.lit (.string l)]))=>.string ⟨l.toArray⟩
 |_=>undef
def TB(cs:Array Value):Obj->Obj
 |.cells _ t frozen=>.cells cs t frozen
 |o=>o
noncomputable def BL(os:Os):World:=
 let w0:=World.holding Tryz.prog os ⟨#[.cells #[age Rows.laid_strconv_ErrSyntax] 257,.cells #[age Rows.laid_strconv_ErrRange] 257],#[],[]⟩
 let low:=(World.settled Tryz.prog os).heap.size
 {w0 with heap:=((((w0.heap.modify 0 (TB #[.iface 255 (.pointer (some ⟨low,0,none⟩))])).modify 1 (TB #[.iface 255 (.pointer (some ⟨low+1,0,none⟩))])).modify 2 (TB (adt Rows.laid_internal_strconv_uint64pow10))).modify 3 (TB (adt Rows.laid_math_bits_deBruijn32tab))).modify 4 (TB (adt Rows.laid_math_bits_deBruijn64tab))}
end Go.Vm
