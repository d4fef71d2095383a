/- The program's own iterators: what they yield. -/
import Derived.Test.YtaiahkcmdnaooaaGreatDoorQVmC
import Derived.RangeFuncBox
import Derived.RangeFuncLeaves
import Derived.Shelf.Abstract
import Derived.WalkKit
import Derived.OwnWalkIn
import Derived.TacticsInMore
import Derived.LoopNIn
import Derived.LoopIn
set_option linter.unusedVariables false
set_option linter.unusedSimpArgs false
namespace Go.Proofs
open Go.RowKit Go.Shelf
attribute [local go_sem] Oper.semAt_some
def TQ (W:World) (B o k c s:Nat):Prop:=∃ (a:Option Addr) (cap:Nat),W.cell? ⟨B,o,none⟩=some (.slice a k cap)∧(0<k->a=some ⟨c,s,none⟩)
def RE (W:World) (B o B2 o2 k c s c2 s2:Nat) (us vs:List Value):Prop:=
 TQ W B o k c s∧TQ W B2 o2 k c2 s2∧(∀ (i:Nat) v,us[i]? = some v->W.cell? ⟨c,s+i,none⟩=some v)∧∀ (i:Nat) v,vs[i]? = some v->W.cell? ⟨c2,s2+i,none⟩=some v
set_option maxRecDepth 100000 in
set_option maxHeartbeats 2000000 in
theorem Rx (l B o k c s c2 s2:Nat) (us vs:List Value) (hu:us.length=k) (hv:vs.length=k) (hk:k<4611686018427387904) (J Jx:Nat->World->Prop)
  (hV:∀ i W1,J i W1->RE W1 B o B (o+1) k c s c2 s2 us vs)
  (hY:∀ (i:Nat) x y W1,J i W1->us[i]? = some x->vs[i]? = some y->YieldAt (Go.Am.Fw none) 0 Tryz.prog l #[x,y] W1 fun e W'=>(e=.returned (.bool true)∧J (i+1) W')∨(e=.returned (.bool false)∧Jx (i+1) W'))
  (W:World) (h0:J 0 W) :
  CallsIn (Go.Am.Fw none) 1 Tryz.prog 175 #[.func (.yield l) #[] #[],.pointer (some ⟨B,o,none⟩)] W fun e W'=>(∃ v,e=.returned v)∧(J k W'∨∃ i,Jx i W'):=by
 refine callsIn_of_wp Tryz.func175 rfl trivial ?_ rfl;simp only [Tryz.ntmps175,List.size_toArray,List.length_cons,List.length_nil,Nat.reduceAdd,Nat.reduceSub,Array.replicate_succ,Array.replicate_zero,List.push_toArray,List.append_toArray,List.nil_append,List.cons_append];obtain ⟨⟨a,cap,hc0,ha⟩,_⟩:=hV 0 W h0
 gi_wp2
 gi_loopw [8] (fun i wr=>∃ j:Nat,j<=k∧i=.int .i64 j∧J j wr) (fun i _=>k-(intOf i).toNat)
 case atStart=>grind
 case round=>
  obtain ⟨j,hj,rfl,hJs⟩:=hrel;by_cases hlt:j<k
  ·obtain rfl:=ha aa;have ex:∃ x,us[j]? = some x:=⟨_,List.getElem?_eq_getElem aa⟩;have ey:∃ y,vs[j]? = some y:=⟨_,List.getElem?_eq_getElem aa⟩;obtain ⟨x,hx⟩:=ex;obtain ⟨y,hy'⟩:=ey;obtain ⟨_,⟨a2,cap2,hc2,ha2⟩,hus,hvs⟩:=hV j wr hJs;obtain rfl:=ha2 aa;have hcx:=hus j x hx;have hcy:=hvs j y hy';obtain ⟨fn,tmps,assign,body,hy,hR⟩:=hY j x y wr hJs hx hy'
   clear hx hy' hus hvs
   gi_wp2
   refine hR.mono ?_;rintro e W3 (⟨rfl,hJ3⟩ | ⟨rfl,hJx3⟩)
   ·gi_wp2
    go_roundw
    case rel=>exact ⟨j+1,aa,af,hJ3⟩
    case measure=>simp [intOf];omega
   ·gi_wp2
    refine bodyPost_ret (results_none rfl _ _ _) rfl ?_;exact ⟨⟨_,rfl⟩,.inr ⟨_,hJx3⟩⟩
  ·obtain rfl:j=k:=aa
   gi_wp2
   simp_all [bodyPost_end,results_none]
set_option maxRecDepth 100000 in
set_option maxHeartbeats 2000000 in
theorem Lf (l B o B2 o2 k c s c2 s2:Nat) (us vs:List Value) (hu:us.length=k) (hv:vs.length=k) (hk:k<4611686018427387904) (J Jx:Nat->World->Prop)
  (hV:∀ i W1,J i W1->RE W1 B o B2 o2 k c s c2 s2 us vs)
  (hY:∀ (i:Nat) x y W1,J i W1->us[i]? = some x->vs[i]? = some y->YieldAt (Go.Am.Fw none) 0 Tryz.prog l #[x,y] W1 fun e W'=>(e=.returned (.bool true)∧J (i+1) W')∨(e=.returned (.bool false)∧Jx (i+1) W'))
  (W:World) (h0:J 0 W) :
  CallsIn (Go.Am.Fw none) 1 Tryz.prog 170 #[.func (.yield l) #[] #[],.pointer (some ⟨B,o,none⟩),.pointer (some ⟨B2,o2,none⟩)] W fun e W'=>(∃ v,e=.returned v)∧(J k W'∨∃ i,Jx i W'):=by
 refine callsIn_of_wp Tryz.func170 rfl trivial ?_ rfl;simp only [Tryz.ntmps170,List.size_toArray,List.length_cons,List.length_nil,Nat.reduceAdd,Nat.reduceSub,Array.replicate_succ,Array.replicate_zero,List.push_toArray,List.append_toArray,List.nil_append,List.cons_append];obtain ⟨⟨a,cap,hc0,ha⟩,_⟩:=hV 0 W h0
 gi_wp2
 gi_loopw [8] (fun i wr=>∃ j:Nat,j<=k∧i=.int .i64 j∧J j wr) (fun i _=>k-(intOf i).toNat)
 case atStart=>grind
 case round=>
  obtain ⟨j,hj,rfl,hJs⟩:=hrel;by_cases hlt:j<k
  ·obtain rfl:=ha aa;have ex:∃ x,us[j]? = some x:=⟨_,List.getElem?_eq_getElem aa⟩;have ey:∃ y,vs[j]? = some y:=⟨_,List.getElem?_eq_getElem aa⟩;obtain ⟨x,hx⟩:=ex;obtain ⟨y,hy'⟩:=ey;obtain ⟨_,⟨a2,cap2,hc2,ha2⟩,hus,hvs⟩:=hV j wr hJs;obtain rfl:=ha2 aa;have hcx:=hus j x hx;have hcy:=hvs j y hy';obtain ⟨fn,tmps,assign,body,hy,hR⟩:=hY j x y wr hJs hx hy'
   clear hx hy' hus hvs
   gi_wp2
   refine hR.mono ?_;rintro e W3 (⟨rfl,hJ3⟩ | ⟨rfl,hJx3⟩)
   ·gi_wp2
    go_roundw
    case rel=>exact ⟨j+1,aa,af,hJ3⟩
    case measure=>simp [intOf];omega
   ·gi_wp2
    refine bodyPost_ret (results_none rfl _ _ _) rfl ?_;exact ⟨⟨_,rfl⟩,.inr ⟨_,hJx3⟩⟩
  ·obtain rfl:j=k:=aa
   gi_wp2
   simp_all [bodyPost_end,results_none]
end Go.Proofs
namespace Go.Vm
open Go Go.Am Go.Proofs
noncomputable section
theorem C6 {P:Program} {f:FuncId} {args:Array Value} {w:World} {R:Ending->World->Prop} (h:CallsIn (Fw none) 1 P f args w R):CallsIn (Fw none) 0 P f args w R:=
 ⟨h.1,fun cs _=>h.2 cs (fun d hd=>by trivial)⟩
def hd1 (x:List Value):Value:=x.headD default
def sd1 (x:List Value):Value:=x.tail.headD default
theorem IY:∀ (us vs:List Value),us.length=vs.length->(((us.zip vs).map fun x=>[x.1,x.2]).map hd1)=us∧(((us.zip vs).map fun x=>[x.1,x.2]).map sd1)=vs
 | [],[],_=>⟨rfl,rfl⟩
 | u::us,v::vs,h=>by
  obtain ⟨h1,h2⟩:=IY us vs (by grind);simp only [List.zip_cons_cons,Zu,h1,h2];trivial
 | [],_::_,h=>by simp at h
 | _::_,[],h=>by simp at h
theorem ui {H:AH} {p q:Value} {xs:List (List Value)} (h:EO H p q=some xs):m5 H 1 p=some (xs.length,xs.map hd1)∧m5 H 1 q=some (xs.length,xs.map sd1)∧xs.length<4611686018427387904∧Io p=true∧Io q=true ∧
  ∀ x∈xs,x=[hd1 x,sd1 x]∧plain (hd1 x)=true∧plain (sd1 x)=true:=by
 unfold EO at h;split at h
 case h_2=>cases h
 rename_i k us k' vs hp hq;split at h
 case isFalse=>cases h
 rename_i hc;obtain ⟨h1,h2,h3,h4,h5,h6,h7⟩:=hc;simp only [Z9] at h;subst h;obtain ⟨m1,m2⟩:=IY us vs aa;have hl:((us.zip vs).map fun x=>[x.1,x.2]).length=k:=by simp;omega
 rw [m1,m2,hl];simp only [Z8] at h5;refine ⟨hp,by rw [hq,h1],h4,h5.1,h5.2,fun x hx=>?_⟩;obtain ⟨⟨a,b⟩,hab,rfl⟩:=Y5.1 hx;have:=List.of_mem_zip hab;have e1:=Zv.1 h6 a this.1;have e2:=Zv.1 h7 b this.2;simp only [Z8] at e1 e2;exact ⟨rfl,e1.1,e2.1⟩
theorem yg {X:Cfg} {φ:bc} {p v:Value} (hp:Io p=true) (hv:am φ p v):∃ c s:Nat,∀ (φ':bc) (H':AH) (w':World) (k:Nat) (us:List Value),aZ X φ' H' w'->PLe φ φ'->m5 H' 1 p=some (k,us)->us.length=k->(∀ u∈us,plain u=true) ->
  ∀ B o v',w'.cell? ⟨B,o,none⟩=some v'->am φ' p v'->TQ w' B o k c s∧∀ (i:Nat) u,us[i]? = some u->w'.cell? ⟨c,s+i,none⟩=some u:=by
 cases p <;> simp only [Io] at hp <;> try cases hp
 rename_i a n cap;cases a with
 | none=>
  refine ⟨0,0,fun φ' H' w' k us hh _ hs hk _ B o v' hc hv'=>?_⟩;have e:=eT hv';subst e;cases n with
  | zero=>
   simp only [m5,Z9,Z6] at hs;obtain ⟨rfl,rfl⟩:=hs;exact ⟨⟨none,cap,hc,fun h=>absurd h aa⟩,fun i u hi=>by simp at hi⟩
  | succ n=>trivial
 | some a=>
  obtain ⟨a',c',rfl,hs⟩:=fj hv
  have hpl:a.spot=none∧∃ pl,φ a.block=some pl:=by
   rcases hs with ⟨h1,_,pl,hp,_⟩ | ⟨h1,_,_,_,pl,hp⟩
   ·grind
   ·grind
  obtain ⟨hsp,pl,hpl⟩:=hpl;obtain ⟨b,off,sp⟩:=a;simp only at hsp hpl;subst hsp;refine ⟨pl.c,pl.s+off,fun φ' H' w' k us hh hle hs' hk hpl' B o v' hc hv'=>?_⟩;obtain ⟨⟨b2,o2,s2⟩,c2,rfl,hs2⟩:=fj hv';have hpb:=hle _ _ hpl;simp only [m5] at hs';split at hs'
  ·rename_i hn;simp only [Z9,Z6] at hs';obtain ⟨rfl,rfl⟩:=hs';subst hn;exact ⟨⟨_,c2,hc,fun h=>absurd h aa⟩,fun i u hi=>by simp at hi⟩
  ·rename_i hn;simp only [X8,Z5,Z6] at hs';obtain ⟨cs,hr,rfl,rfl⟩:=hs';obtain ⟨cs',r1,r2,r3,r4⟩:=hh.read hr hpb
   have hb:b2=pl.c∧o2=pl.s+off∧s2=none:=by
    rcases hs2 with ⟨_,h2,pl2,hp2,h3,h4,_⟩ | ⟨_,h0,_⟩
    ·grind
    ·omega
   obtain ⟨rfl,rfl,rfl⟩:=hb;refine ⟨⟨_,c2,hc,fun _=>rfl⟩,fun i u hi=>?_⟩
   grind [ak.at,kf,am.of_plain]
theorem Cp {x:List Value} (h:x=[hd1 x,sd1 x]∧plain (hd1 x)=true∧plain (sd1 x)=true):iw x=true:=by
 grind [iw]
theorem Mh {xs:List (List Value)} (hpl:∀ x∈xs,x=[hd1 x,sd1 x]∧plain (hd1 x)=true∧plain (sd1 x)=true) {i:Nat} {a b:Value} (ha:(xs.map hd1)[i]? = some a) (hb:(xs.map sd1)[i]? = some b):xs[i]? = some [a,b]:=by
 grind
theorem Oy {f : FuncId} {fn : Func} (h : Tryz.prog.funcs[f]? = some fn) (hb : fn.body.isNone = false) (hn : (fn.name == "runtime.NumGoroutine") = false) : ∃ fn, X.P.funcs[f]? = some fn ∧ fn.body.isNone = false ∧ (fn.name == "runtime.NumGoroutine") = false := ⟨fn, h, hb, hn⟩
set_option maxRecDepth 100000 in
theorem Tk : ∃ fn, X.P.funcs[175]? = some fn ∧ fn.body.isNone = false ∧ (fn.name == "runtime.NumGoroutine") = false := Oy Tryz.func175 rfl (by rfl)
set_option maxRecDepth 100000 in
theorem Oz : ∃ fn, X.P.funcs[170]? = some fn ∧ fn.body.isNone = false ∧ (fn.name == "runtime.NumGoroutine") = false := Oy Tryz.func170 rfl (by rfl)
theorem UC:Ky X:=by
 intro gf lb H xs h0;have h:zq gf lb H=some xs:=h0;clear h0;unfold zq at h;split at h
 ·rename_i hg;have hg:gf=175:=Zo hg;subst hg;split at h
  case h_2=>cases h
  rename_i b o;split at h
  case h_2=>cases h
  rename_i p q d hrd;obtain ⟨s1,s2,s3,s4,s5,hpl⟩:=ui h;refine ⟨fun x hx=>Cp (hpl x hx),Tk,fun φ w lb' hh hl=>?_⟩;simp only [ak] at hl;obtain ⟨v',r,rfl,hv',rfl⟩:=hl;obtain ⟨pl,hpb,rfl⟩:=mK hv';obtain ⟨cs',r1,r2,r3,r4⟩:=hh.read hrd hpb;simp only [ak] at r1;obtain ⟨p',_,rfl,hp',q',_,rfl,hq',d',_,rfl,hd',rfl⟩:=r1;obtain ⟨c,s,base⟩:=yg (X:=X) s4 hp'
  obtain ⟨c2,s2',base2⟩:=yg (X:=X) s5 hq';refine ⟨fun W=>RE W pl.c (pl.s+o) pl.c (pl.s+o+1) xs.length c s c2 s2' (xs.map hd1) (xs.map sd1),fun φ' H' w' hh' hle hl' hs hk=>?_,fun l J Jx W hV hY h0=>?_⟩
  ·have hk:(bD H' b o 3).getD []=(bD H b o 3).getD []:=hk;have hs:zq 175 [.pointer (some ⟨b,o,none⟩)] H'=some xs:=hs;rw [hrd] at hk
   have hrd':bD H' b o 3=some [p,q,d]:=by
    cases hr:bD H' b o 3 with
    | none=>grind
    | some cs=>grind
   have hz:EO H' p q=some xs:=by
    unfold zq at hs;rw [show Nat.beq 175 F.cJ=true from rfl] at hs;simp only [hrd'] at hs;exact hs
   obtain ⟨t1,t2,_⟩:=ui hz;obtain ⟨ds',u1,u2,u3,u4⟩:=hh'.read hrd' (hle _ _ hpb);simp only [ak] at u1;obtain ⟨p2,_,rfl,hp2,q2,_,rfl,hq2,d2,_,rfl,hd2,rfl⟩:=u1;have k0:=u4 0 p2 rfl;have k1:=u4 1 q2 rfl;rw [kf] at k0 k1;obtain ⟨w1,w2⟩:=base φ' H' w' _ _ hh' hle t1 af (fun u hu=>by grind) _ _ _ k0 hp2
   obtain ⟨w3,w4⟩:=base2 φ' H' w' _ _ hh' hle t2 af (fun u hu=>by grind) _ _ _ k1 hq2;trivial
  ·exact C6 (Rx l pl.c (pl.s+o) xs.length c s c2 s2' (xs.map hd1) (xs.map sd1) af af s3 J Jx hV (fun i x y W1 hJ hx hy=>hY i [x,y] W1 hJ (Mh hpl hx hy)) W h0)
 ·split at h
  case h_2=>cases h
  rename_i hg;have hg:gf=170:=Zo hg;subst hg;split at h
  case h_2=>cases h
  rename_i b o b2 o2;split at h
  case h_2=>cases h
  rename_i p q hrd hrd2;obtain ⟨s1,s2,s3,s4,s5,hpl⟩:=ui h;refine ⟨fun x hx=>Cp (hpl x hx),Oz,fun φ w lb' hh hl=>?_⟩;simp only [ak] at hl;obtain ⟨v',r,rfl,hv',v2',r2',rfl,hv2',rfl⟩:=hl;obtain ⟨pl,hpb,rfl⟩:=mK hv';obtain ⟨pl2,hpb2,rfl⟩:=mK hv2';obtain ⟨cs',r1,r2,r3,r4⟩:=hh.read hrd hpb;simp only [ak] at r1;obtain ⟨p',_,rfl,hp',rfl⟩:=r1
  obtain ⟨cs2',e1,e2,e3,e4⟩:=hh.read hrd2 hpb2;simp only [ak] at e1;obtain ⟨q',_,rfl,hq',rfl⟩:=e1;obtain ⟨c,s,base⟩:=yg (X:=X) s4 hp';obtain ⟨c2,s2',base2⟩:=yg (X:=X) s5 hq';refine ⟨fun W=>RE W pl.c (pl.s+o) pl2.c (pl2.s+o2) xs.length c s c2 s2' (xs.map hd1) (xs.map sd1),fun φ' H' w' hh' hle hl' hs hk=>?_,fun l J Jx W hV hY h0=>?_⟩
  ·have hk:(bD H' b o 1).getD []++(bD H' b2 o2 1).getD []=(bD H b o 1).getD []++(bD H b2 o2 1).getD []:=hk;have hs:zq 170 [.pointer (some ⟨b,o,none⟩),.pointer (some ⟨b2,o2,none⟩)] H'=some xs:=hs;rw [hrd,hrd2] at hk
   have hz:bD H' b o 1=some [p]∧bD H' b2 o2 1=some [q]∧EO H' p q=some xs:=by
    unfold zq at hs;rw [show Nat.beq 170 F.cJ=false from rfl,show Nat.beq 170 F.qe=true from rfl] at hs;simp only at hs;split at hs
    case h_2=>cases hs
    rename_i p0 q0 g1 g2;rw [g1,g2] at hk;simp only [Option.getD_some,List.cons_append,List.nil_append,List.cons.injEq,and_true] at hk;obtain ⟨rfl,rfl⟩:=hk;exact ⟨g1,g2,hs⟩
   obtain ⟨hrd',hrd2',hz⟩:=hz;obtain ⟨t1,t2,_⟩:=ui hz;obtain ⟨ds',u1,u2,u3,u4⟩:=hh'.read hrd' (hle _ _ hpb);simp only [ak] at u1;obtain ⟨p2,_,rfl,hp2,rfl⟩:=u1;obtain ⟨ds2',x1,x2,x3,x4⟩:=hh'.read hrd2' (hle _ _ hpb2);simp only [ak] at x1;obtain ⟨q2,_,rfl,hq2,rfl⟩:=x1;have k0:=u4 0 p2 rfl;have k1:=x4 0 q2 rfl;rw [kf] at k0 k1
   obtain ⟨w1,w2⟩:=base φ' H' w' _ _ hh' hle t1 af (fun u hu=>by grind) _ _ _ k0 hp2;obtain ⟨w3,w4⟩:=base2 φ' H' w' _ _ hh' hle t2 af (fun u hu=>by grind) _ _ _ k1 hq2;trivial
  ·exact C6 (Lf l pl.c (pl.s+o) pl2.c (pl2.s+o2) xs.length c s c2 s2' (xs.map hd1) (xs.map sd1) af af s3 J Jx hV (fun i x y W1 hJ hx hy=>hY i [x,y] W1 hJ (Mh hpl hx hy)) W h0)
end
end Go.Vm
